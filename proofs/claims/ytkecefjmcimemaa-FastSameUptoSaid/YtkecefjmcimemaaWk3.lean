/- Walks after the mirrors. Printed by mir.py. -/
import Derived.Test.YtkecefjmcimemaaWk2
namespace Go.Proofs.Ytkecefjmcimemaa
open Go.RowKit
set_option linter.unusedVariables false
/- (*run.machine).fail -/
set_option maxRecDepth 100000 in
set_option maxHeartbeats 8000000 in
theorem J8 (N:Nat) (a0:l9) (a1:Int) {Kl:Nat} {cl_0:List AV} {Kq:Nat} {cq_0:List AV} {cq_1:List AV} (r:l9) (h:K5 N a0 a1=some r):Spec Try.prog 60 [(1000,.box [.ptr 1001 0,.fn Kl [.fp cl_0],.fn Kq [.fp cq_0,.fp cq_1],.int a0.fuel,.int a0.sends,.int a0.turns,.own 1003,.int a0.back.k,.int a0.back.n,.int a0.err] 123)] [.ptr 1000 0,.int a1] (.tup []) [(1000,.box [.ptr 1001 0,.fn Kl [.fp cl_0],.fn Kq [.fp cq_0,.fp cq_1],.int r.fuel,.int r.sends,.int r.turns,.own 1003,.int r.back.k,.int r.back.n,.int r.err] 123)] []:=by
 refine Spec.of D5 Try.func60 rfl Try.ntmps60 (by kernel_rfl) rfl rfl rfl fun Γ hn=>?_
 unfold K5 at h
 refine j5.snoc ?_
 refine j6 hn ?_
 obtain ⟨o3,h2,h⟩:=j4 h
 refine jk (ι:={ s // o3=s }) hn (fun s=>[]) (fun s=>[(1000,.box [.ptr 1001 0,.fn Kl [.fp cl_0],.fn Kq [.fp cq_0,.fp cq_1],.int a0.fuel,.int a0.sends,.int a0.turns,.own 1003,.int a0.back.k,.int a0.back.n,.int s.1] 123)]) [(0,_)] [] (fun _ A0 _ _=>?_) ?_
 ·refine l8 hn ?_
  refine l5 h2 (fun hb4 h2=>?_) (fun hb4 h2=>?_)
  ·refine q9 hn ?_
   refine A0 _ _ ?_
   exact jn ⟨_,sj h2⟩ []
  refine q8 hn ?_
  refine A0 _ _ ?_
  exact jn ⟨_,sj h2⟩ []
 rintro ⟨v1,hv_⟩
 replace hv_:=hv_.symm
 subst hv_
 refine I4.done ?_
 obtain rfl:=Option.some.inj h
 exact ⟨[],_,fm⟩

/- (*run.machine).count -/
set_option maxRecDepth 100000 in
set_option maxHeartbeats 8000000 in
theorem aH8 (N:Nat) (a0:l9) (a1:Bool) {Kl:Nat} {cl_0:List AV} {Kq:Nat} {cq_0:List AV} {cq_1:List AV} (r:(Bool×l9)) (h:Z6 N a0 a1=some r):Spec Try.prog 89 [(1000,.box [.ptr 1001 0,.fn Kl [.fp cl_0],.fn Kq [.fp cq_0,.fp cq_1],.int a0.fuel,.int a0.sends,.int a0.turns,.own 1003,.int a0.back.k,.int a0.back.n,.int a0.err] 123),(1003,.deep 10 160 [(7,(2,27)),(8,(2,27))] (List.map y7 a0.frames) [] 1005)] [.ptr 1000 0,.bool a1] (.bool r.1) [(1000,.box [.ptr 1001 0,.fn Kl [.fp cl_0],.fn Kq [.fp cq_0,.fp cq_1],.int r.2.fuel,.int r.2.sends,.int r.2.turns,.own 1003,.int r.2.back.k,.int r.2.back.n,.int r.2.err] 123),(1003,.deep 10 160 [(7,(2,27)),(8,(2,27))] (List.map y7 a0.frames) [] 1005)] []:=by
 refine Spec.of D5 Try.func89 rfl Try.ntmps89 (by kernel_rfl) rfl rfl rfl fun Γ hn=>?_
 unfold Z6 at h
 refine j6 hn ?_
 refine j5.seqQ fun _ A0 _ R0=>?_
 obtain ⟨o8,h7,h⟩:=j4 h
 refine jk (ι:={ s // o8=D7.next s }) hn (fun s=>[]) (fun s=>[(1000,.box [.ptr 1001 0,.fn Kl [.fp cl_0],.fn Kq [.fp cq_0,.fp cq_1],.int s.1.1,.int s.1.2.1,.int s.1.2.2.1,.own 1003,.int s.1.2.2.2.1,.int s.1.2.2.2.2.1,.int s.1.2.2.2.2.2] 123)]) [(0,_)] [(1003,_)] (fun _ A1 _ R1=>?_) ?_
 ·refine j5.blkQ fun _ A2 _ _ R2=>?_
  refine j5.seqQ fun _ A3 _ _=>?_
  refine H7 hn (by kernel_rfl) ?_
  refine A3 _ _ ?_
  obtain ⟨o16,h15,h7⟩:=j4 h7
  refine jk (ι:={ s // o16=D7.next s }) hn (fun s=>[]) (fun s=>[(1000,.box [.ptr 1001 0,.fn Kl [.fp cl_0],.fn Kq [.fp cq_0,.fp cq_1],.int s.1.1,.int s.1.2.1,.int s.1.2.2.1,.own 1003,.int s.1.2.2.2.1,.int s.1.2.2.2.2.1,.int s.1.2.2.2.2.2] 123)]) [(0,_)] [(1003,_)] (fun _ A4 _ R4=>?_) ?_
  ·refine l8 hn ?_
   refine l5 h15 (fun hb17 h15=>?_) (fun hb17 h15=>?_)
   ·refine q9 hn ?_
    obtain ⟨r18,hr19,h15⟩:=j4 h15
    show l7 Try.prog _ _ _ _
    refine cA (J8 N (⟨(⟨a0.w.classes,a0.w.heap,a0.w.epoch⟩:Wd),a0.fuel,a0.sends,a0.turns,a0.frames,a0.back,a0.err⟩:l9) (13:Int) r18 hr19) ?_
    refine A4 _ _ ?_
    exact jn ⟨_,sj h15⟩ []
   refine j5.seqQ fun _ A5 _ _=>?_
   obtain ⟨o22,h21,h15⟩:=j4 h15
   refine jk (ι:={ s // o22=s }) hn (fun s=>[(24,.bool s.1)]) (fun s=>[]) [(0,_)] [(1000,_),(1003,_)] (fun _ A6 _ _=>?_) ?_
   ·refine q9 hn ?_
    refine l5 h21 (fun hb23 h21=>?_) (fun hb23 h21=>?_)
    ·refine j3 hb23 ?_
     refine j3 hb23 ?_
     refine j3 hb23 ?_
     refine j3 hb23 ?_
     refine u7 (fun _=>?_)
     refine j3 hb23 ?_
     refine j3 hb23 ?_
     refine A6 _ _ ?_
     exact jn ⟨_,sj h21⟩ []
    refine d9 hb23 ?_
    refine d9 hb23 ?_
    refine d9 hb23 ?_
    refine d9 hb23 ?_
    refine d9 hb23 ?_
    refine d9 hb23 ?_
    refine A6 _ _ ?_
    exact jn ⟨_,sj h21⟩ []
   rintro ⟨v20,hv_⟩
   replace hv_:=hv_.symm
   subst hv_
   refine A5 _ _ ?_
   refine l8 hn ?_
   refine l5 h15 (fun hb25 h15=>?_) (fun hb25 h15=>?_)
   ·refine q9 hn ?_
    obtain ⟨r26,hr27,h15⟩:=j4 h15
    show l7 Try.prog _ _ _ _
    refine cA (J8 N (⟨(⟨a0.w.classes,a0.w.heap,a0.w.epoch⟩:Wd),a0.fuel,a0.sends,a0.turns,a0.frames,a0.back,a0.err⟩:l9) (14:Int) r26 hr27) ?_
    refine A4 _ _ ?_
    exact jn ⟨_,sj h15⟩ []
   refine j6 hn ?_
   refine Or.inr ?_
   refine j6 hn ?_
   refine got hn ?_
   refine R4 _ _ ?_
   refine R2 _ _ ?_
   refine R1 _ _ ?_
   refine R0 _ _ ?_
   obtain rfl:=Option.some.inj h15
   obtain rfl:=Option.some.inj h7
   obtain rfl:=Option.some.inj h
   exact ⟨[],_,fm⟩
  rintro ⟨⟨v9,v10,v11,v12,v13,v14⟩,rfl⟩
  refine A2 _ _ ?_
  refine A1 _ _ ?_
  exact jn ⟨_,sj h7⟩ []
 rintro ⟨⟨v1,v2,v3,v4,v5,v6⟩,rfl⟩
 refine A0 _ _ ?_
 refine j6 hn ?_
 refine got hn ?_
 obtain rfl:=Option.some.inj h
 exact ⟨[],_,fm⟩

/- (*run.machine).give -/
set_option maxRecDepth 100000 in
set_option maxHeartbeats 8000000 in
theorem aS4 (N:Nat) (a0:l9) (a1:V) {Kl:Nat} {cl_0:List AV} {Kq:Nat} {cq_0:List AV} {cq_1:List AV} (r:l9) (h:aB2 N a0 a1=some r):Spec Try.prog 91 [(1000,.box [.ptr 1001 0,.fn Kl [.fp cl_0],.fn Kq [.fp cq_0,.fp cq_1],.int a0.fuel,.int a0.sends,.int a0.turns,.own 1003,.int a0.back.k,.int a0.back.n,.int a0.err] 123),(1003,.deep 10 160 [(7,(2,27)),(8,(2,27))] (List.map y7 a0.frames) [] 1005)] [.ptr 1000 0,.agg (eV a1)] (.tup []) [(1000,.box [.ptr 1001 0,.fn Kl [.fp cl_0],.fn Kq [.fp cq_0,.fp cq_1],.int r.fuel,.int r.sends,.int r.turns,.own 1003,.int r.back.k,.int r.back.n,.int r.err] 123),(1003,.deep 10 160 [(7,(2,27)),(8,(2,27))] (List.map y7 r.frames) [] 5),(5,.gone)] [5]:=by
 refine Spec.of D5 Try.func91 rfl Try.ntmps91 (by kernel_rfl) rfl rfl rfl fun Γ hn=>?_
 unfold aB2 at h
 refine j5.snoc ?_
 refine j6 hn ?_
 refine j5.seqQ fun _ A0 _ R0=>?_
 refine j6 hn ?_
 refine u7 (fun _=>?_)
 refine l8 hn ?_
 refine l5 h (fun hb2 h=>?_) (fun hb2 h=>?_)
 ·refine j6 hn ?_
  refine j5.gh (Gh.resh 1003 501 rfl rfl rfl rfl) (fun _=>?_)
  refine got hn ?_
  refine R0 _ _ ?_
  obtain rfl:=Option.some.inj h
  exact ⟨[(5,501)],_,fm⟩
 refine q8 hn ?_
 refine A0 _ _ ?_
 refine j5.seqQ fun _ A1 _ _=>?_
 refine H7 hn (by kernel_rfl) ?_
 refine u7 (fun _=>?_)
 refine Or.inr ?_
 obtain ⟨x4,hx5,h⟩:=j4 h
 refine ixD hx5 rfl rfl ?_
 refine A1 _ _ ?_
 refine j5.gh (Gh.detach 1003 502 503 ((wr ((a0.frames.length:Int) - (1:Int))).toNat) 8 rfl rfl (atD (u6 hx5).2) rfl rfl rfl rfl rfl rfl rfl rfl) (fun _=>?_)
 refine kp [(0,_),(3,_),(4,_)] [(3,_),(502,_),(503,_),(1000,_),(1003,_)] ?_
 refine H7 hn (by kernel_rfl) ?_
 refine W9 (u6 hx5).2 rfl rfl (by decide) rfl ?_
 refine Exists.intro (List.map eV [a1]) (And.intro (by repeat (first|exact trivial|exact rfl|(refine And.intro ?_ ?_))) ?_)
 obtain ⟨hg6,h⟩:=C9 h
 refine O7 (l2:=[a1]) hg6 (z8 _) ?_
 refine bC3 (u6 hx5).2 rfl rfl (by decide) ?_
 refine I4.gh (Gh.attach (l':=List.map y7 (a0.frames.set ((wr ((a0.frames.length:Int) - (1:Int))).toNat) (⟨x4.class_,x4.method,x4.fast,x4.code,x4.self_,x4.args,x4.temps,(x4.stack++[a1]),x4.at_⟩:l6))) 1003 33 504 ((wr ((a0.frames.length:Int) - (1:Int))).toNat) 8 rfl rfl rfl (atD (u6 hx5).2) rfl rfl (aR7 rfl) rfl rfl rfl rfl rfl rfl) (fun _=>?_)
 refine I4.done ?_
 obtain rfl:=Option.some.inj h
 exact ⟨[(5,504)],_,fm⟩

/- (*run.machine).enter -/
set_option maxRecDepth 100000 in
set_option maxHeartbeats 8000000 in
theorem aR8 (N:Nat) (a0:l9) (gq:Int→Int→Option (Fs×Bool)) (a1:Int) (a2:Int) (a3:V) (a4:(List V)) {Kl:Nat} {cl_0:List AV} {Kq:Nat} {cq_0:List AV} {cq_1:List AV} (hgq:∀x0_ x1_ y_,gq x0_ x1_=some y_→Spec Try.prog Kq [] [.int x0_,.int x1_,.fp cq_0,.fp cq_1] (.tup [.agg (eFs y_.1),.bool y_.2]) [] []) (r:l9) (h:aC9 N a0 gq a1 a2 a3 a4=some r):Spec Try.prog 61 [(1000,.box [.ptr 1001 0,.fn Kl [.fp cl_0],.fn Kq [.fp cq_0,.fp cq_1],.int a0.fuel,.int a0.sends,.int a0.turns,.own 1003,.int a0.back.k,.int a0.back.n,.int a0.err] 123),(1001,.box [.sl 4 (List.map K7 a0.w.classes),.own 1002,.int a0.w.epoch] 25),(1003,.deep 10 160 [(7,(2,27)),(8,(2,27))] (List.map y7 a0.frames) [] 1005)] [.ptr 1000 0,.int a1,.int a2,.agg (eV a3),.sl 2 (List.map eV a4)] (.tup []) [(1000,.box [.ptr 1001 0,.fn Kl [.fp cl_0],.fn Kq [.fp cq_0,.fp cq_1],.int r.fuel,.int r.sends,.int r.turns,.own 4,.int r.back.k,.int r.back.n,.int r.err] 123),(1001,.box [.sl 4 (List.map K7 a0.w.classes),.own 1002,.int a0.w.epoch] 25),(4,.deep 10 160 [(7,(2,27)),(8,(2,27))] (List.map y7 r.frames) [] 5),(5,.gone),(1003,.gone)] [5,4]:=by
 refine Spec.of D5 Try.func61 rfl Try.ntmps61 (by kernel_rfl) rfl rfl rfl fun Γ hn=>?_
 unfold aC9 at h
 refine j5.snoc ?_
 refine j6 hn ?_
 refine j6 hn ?_
 obtain ⟨x1,hx2,h⟩:=j4 h
 refine I8 hx2 ?_
 obtain ⟨x3,hx4,h⟩:=j4 h
 refine I8 hx4 ?_
 refine j5.seqQ fun _ A0 _ R0=>?_
 refine kp [(0,_),(1,_),(2,_),(4,_),(8,_),(10,_)] [(8,_),(1000,_),(1001,_),(1003,_)] ?_
 refine j6 hn ?_
 refine u7 (fun _=>?_)
 refine l8 hn ?_
 refine l5 h (fun hb6 h=>?_) (fun hb6 h=>?_)
 ·refine j6 hn ?_
  obtain ⟨r7,hr8,h⟩:=j4 h
  show l7 Try.prog _ _ _ _
  refine cA (J8 N (⟨(⟨a0.w.classes,a0.w.heap,a0.w.epoch⟩:Wd),a0.fuel,a0.sends,a0.turns,a0.frames,a0.back,a0.err⟩:l9) (8:Int) r7 hr8) ?_
  refine j5.gh (Gh.reidD 1000 6 1003 501 502 rfl rfl rfl rfl rfl rfl rfl rfl rfl rfl rfl rfl) (fun _=>?_)
  refine got hn ?_
  refine R0 _ _ ?_
  obtain rfl:=Option.some.inj h
  exact ⟨[(4,501),(5,502)],_,fm⟩
 refine q8 hn ?_
 refine A0 _ _ ?_
 refine j5.seqQ fun _ A1 _ R1=>?_
 refine j6 hn ?_
 refine l8 hn ?_
 refine l5 h (fun hb9 h=>?_) (fun hb9 h=>?_)
 ·refine j5.seqQ fun _ A2 _ R2=>?_
  refine kp [(0,_),(4,_),(8,_),(10,_)] [(8,_),(1000,_),(1001,_),(1003,_)] ?_
  refine j6 hn ?_
  obtain ⟨r10,hr11,h⟩:=j4 h
  show l7 Try.prog _ _ _ _
  refine cA (aH8 N (⟨(⟨a0.w.classes,a0.w.heap,a0.w.epoch⟩:Wd),a0.fuel,a0.sends,a0.turns,a0.frames,a0.back,a0.err⟩:l9) false r10 hr11) ?_
  refine l8 hn ?_
  refine l5 h (fun hb12 h=>?_) (fun hb12 h=>?_)
  ·refine j5.gh (Gh.reidD 1000 6 1003 503 504 rfl rfl rfl rfl rfl rfl rfl rfl rfl rfl rfl rfl) (fun _=>?_)
   refine got hn ?_
   refine R2 _ _ ?_
   refine R1 _ _ ?_
   obtain rfl:=Option.some.inj h
   exact ⟨[(4,503),(5,504)],_,fm⟩
  refine q8 hn ?_
  refine A2 _ _ ?_
  refine j5.seqQ fun _ A3 _ _=>?_
  refine H7 hn (by kernel_rfl) ?_
  obtain ⟨x13,hx14,h⟩:=j4 h
  refine I8 hx14 ?_
  obtain ⟨r15,hr16,h⟩:=j4 h
  show l7 Try.prog _ _ _ _
  refine cA (cH6 N x3.prim a3 x13 r15 hr16) ?_
  refine A3 _ _ ?_
  refine j5.seqQ fun _ A4 _ R4=>?_
  refine kp [(0,_),(11,_),(12,_)] [(11,_),(1000,_),(1001,_),(1003,_)] ?_
  refine j6 hn ?_
  refine l8 hn ?_
  refine l5 h (fun hb17 h=>?_) (fun hb17 h=>?_)
  ·refine j6 hn ?_
   obtain ⟨r18,hr19,h⟩:=j4 h
   show l7 Try.prog _ _ _ _
   refine cA (J8 N (⟨(⟨a0.w.classes,a0.w.heap,a0.w.epoch⟩:Wd),r10.2.fuel,r10.2.sends,r10.2.turns,a0.frames,r10.2.back,r10.2.err⟩:l9) r15.2 r18 hr19) ?_
   refine j5.gh (Gh.reidD 1000 6 1003 505 506 rfl rfl rfl rfl rfl rfl rfl rfl rfl rfl rfl rfl) (fun _=>?_)
   refine got hn ?_
   refine R4 _ _ ?_
   refine R1 _ _ ?_
   obtain rfl:=Option.some.inj h
   exact ⟨[(4,505),(5,506)],_,fm⟩
  refine q8 hn ?_
  refine A4 _ _ ?_
  refine j6 hn ?_
  obtain ⟨r20,hr21,h⟩:=j4 h
  show l7 Try.prog _ _ _ _
  refine cA ((aS4 N (⟨(⟨a0.w.classes,a0.w.heap,a0.w.epoch⟩:Wd),r10.2.fuel,r10.2.sends,r10.2.turns,a0.frames,r10.2.back,r10.2.err⟩:l9) r15.1 r20 hr21).sw 5 507) ?_
  refine j5.gh (Gh.reidD 1000 6 1003 508 509 rfl rfl rfl rfl rfl rfl rfl rfl rfl rfl rfl rfl) (fun _=>?_)
  refine got hn ?_
  refine R1 _ _ ?_
  obtain rfl:=Option.some.inj h
  exact ⟨[(4,508),(5,509)],_,fm⟩
 refine q8 hn ?_
 refine A1 _ _ ?_
 refine j5.seqQ fun _ A5 _ R5=>?_
 refine kp [(0,_),(1,_),(2,_),(4,_),(8,_),(10,_)] [(8,_),(1000,_),(1001,_),(1003,_)] ?_
 refine j6 hn ?_
 obtain ⟨r22,hr23,h⟩:=j4 h
 show l7 Try.prog _ _ _ _
 refine cA (aH8 N (⟨(⟨a0.w.classes,a0.w.heap,a0.w.epoch⟩:Wd),a0.fuel,a0.sends,a0.turns,a0.frames,a0.back,a0.err⟩:l9) true r22 hr23) ?_
 refine l8 hn ?_
 refine l5 h (fun hb24 h=>?_) (fun hb24 h=>?_)
 ·refine j5.gh (Gh.reidD 1000 6 1003 510 511 rfl rfl rfl rfl rfl rfl rfl rfl rfl rfl rfl rfl) (fun _=>?_)
  refine got hn ?_
  refine R5 _ _ ?_
  obtain rfl:=Option.some.inj h
  exact ⟨[(4,510),(5,511)],_,fm⟩
 refine q8 hn ?_
 refine A5 _ _ ?_
 refine j5.seqQ fun _ A6 _ _=>?_
 refine kp [(0,_),(1,_),(2,_),(4,_),(8,_),(10,_)] [(8,_),(1000,_),(1001,_),(1003,_)] ?_
 refine H7 hn (by kernel_rfl) ?_
 obtain ⟨r25,hr26,h⟩:=j4 h
 show l7 Try.prog _ _ _ _
 refine cA ((aU9 N a4 r25 hr26).sw 0 77) ?_
 obtain ⟨hg27,h⟩:=C9 h
 refine mkM (enc:=eV) (x:=(⟨(0:Int),(0:Int)⟩:V)) hg27 (by repeat (first|exact trivial|exact rfl|(refine And.intro ?_ ?_))) ?_
 refine A6 _ _ ?_
 refine j5.seqQ fun _ A7 _ _=>?_
 refine kp [(0,_),(1,_),(2,_),(13,_)] [(13,_),(77,_),(82,_),(1000,_),(1001,_),(1003,_)] ?_
 refine j6 hn ?_
 obtain ⟨r28,hr29,h⟩:=j4 h
 show l7 Try.prog _ _ _ _
 refine cA (hgq _ _ _ hr29) ?_
 refine j6 hn ?_
 obtain ⟨o34,h33,h⟩:=j4 h
 refine jk (ι:={ s // o34=s }) hn (fun s=>[]) (fun s=>[(13,.box [.int a1,.int a2,.bool s.1.1,.sl 5 (List.map J2 s.1.2.1),.int a3.k,.int a3.n,.own 77,.own 99,.nilsl,.int (0:Int)] 160),(99,.row 2 (List.map eV s.1.2.2) 27)]) [(0,_),(13,_)] [(77,_),(1000,_),(1001,_),(1003,_)] (fun _ A8 _ _=>?_) ?_
 ·refine l8 hn ?_
  refine l5 h33 (fun hb35 h33=>?_) (fun hb35 h33=>?_)
  ·refine kp [(0,_),(13,_),(14,_)] [(13,_),(14,_),(77,_),(82,_),(1000,_),(1001,_),(1003,_)] ?_
   refine H7 hn (by kernel_rfl) ?_
   obtain ⟨hg36,h33⟩:=C9 h33
   refine mkM (enc:=eV) (x:=(⟨(0:Int),(0:Int)⟩:V)) hg36 (by repeat (first|exact trivial|exact rfl|(refine And.intro ?_ ?_))) ?_
   refine A8 _ _ ?_
   exact jn ⟨_,sj h33⟩ []
  refine q8 hn ?_
  refine A8 _ _ ?_
  exact jn ⟨_,sj h33⟩ [(99,82)]
 rintro ⟨⟨v30,v31,v32⟩,rfl⟩
 refine A7 _ _ ?_
 refine j5.fzAll 77 rfl ?_
 refine kp [(0,_),(13,_)] [(13,_),(99,_),(1000,_),(1001,_),(1003,_)] ?_
 refine H7 hn (by kernel_rfl) ?_
 refine Or.inl ?_
 refine Exists.intro [(7,(2,27)),(8,(2,27))] (Exists.intro (y7 (⟨a1,a2,v30,v31,a3,r25,v32,[],(0:Int)⟩:l6)) (Exists.intro [(99,.row 2 (List.map eV v32) 27)] (And.intro rfl (And.intro rfl (And.intro rfl (And.intro (by decide) (And.intro (by decide) (And.intro rfl (And.intro rfl ?_)))))))))
 obtain ⟨hg37,h⟩:=C9 h
 refine c82 (l2:=[(⟨a1,a2,v30,v31,a3,r25,v32,[],(0:Int)⟩:l6)]) hg37 rfl rfl rfl rfl rfl (by decide) (by decide) ?_
 refine I4.done ?_
 obtain rfl:=Option.some.inj h
 exact ⟨[(4,110),(5,810)],_,fm⟩

/- (*run.machine).send -/
set_option maxRecDepth 100000 in
set_option maxHeartbeats 8000000 in
theorem bI2 (N:Nat) (a0:l9) (gl:St→Int→ByteArray→Option (Int×Int)) (gq:Int→Int→Option (Fs×Bool)) (a1:Nat) (a2:Ins) (a3:Int) {Kl:Nat} {cl_0:List AV} (hgl:∀x0_ x1_ x2_ y_,gl x0_ x1_ x2_=some y_→Spec Try.prog Kl [] [.agg (eSt x0_),.int x1_,.str x2_,.fp cl_0] (.tup [.int y_.1,.int y_.2]) [] []) {Kq:Nat} {cq_0:List AV} {cq_1:List AV} (hgq:∀x0_ x1_ y_,gq x0_ x1_=some y_→Spec Try.prog Kq [] [.int x0_,.int x1_,.fp cq_0,.fp cq_1] (.tup [.agg (eFs y_.1),.bool y_.2]) [] []) (r:l9) (h:aJ6 N a0 gl gq a1 a2 a3=some r):Spec Try.prog 93 [(1000,.box [.ptr 1001 0,.fn Kl [.fp cl_0],.fn Kq [.fp cq_0,.fp cq_1],.int a0.fuel,.int a0.sends,.int a0.turns,.own 1003,.int a0.back.k,.int a0.back.n,.int a0.err] 123),(1001,.box [.sl 4 (List.map K7 a0.w.classes),.own 1002,.int a0.w.epoch] 25),(1002,.deep 2 97 [(1,(2,27))] (List.map H8 a0.w.heap) [] 1004),(1003,.deep 10 160 [(7,(2,27)),(8,(2,27))] (List.map y7 a0.frames) [] 1005)] [.ptr 1000 0,.ep 1003 a1 10 0,.agg (J2 a2),.int a3] (.tup []) [(1000,.box [.ptr 1001 0,.fn Kl [.fp cl_0],.fn Kq [.fp cq_0,.fp cq_1],.int r.fuel,.int r.sends,.int r.turns,.own 4,.int r.back.k,.int r.back.n,.int r.err] 123),(1001,.box [.sl 4 (List.map K7 a0.w.classes),.own 1002,.int a0.w.epoch] 25),(1002,.deep 2 97 [(1,(2,27))] (List.map H8 a0.w.heap) [] 1004),(4,.deep 10 160 [(7,(2,27)),(8,(2,27))] (List.map y7 r.frames) [] 5),(5,.gone),(1003,.gone)] [5,4]:=by
 refine Spec.of D5 Try.func93 rfl Try.ntmps93 (by kernel_rfl) rfl rfl rfl fun Γ hn=>?_
 unfold aJ6 at h
 refine j5.snoc ?_
 refine j6 hn ?_
 refine j5.seqQ fun _ A0 _ _=>?_
 obtain ⟨x1,hx2,h⟩:=j4 h
 refine j5.gh (Gh.detach 1003 501 502 a1 8 rfl rfl (atD hx2) rfl rfl rfl rfl rfl rfl rfl rfl) (fun _=>?_)
 refine kp [(0,_),(1,_),(3,_),(6,_)] [(6,_),(501,_),(502,_),(1000,_),(1001,_),(1002,_),(1003,_)] ?_
 refine H7 hn (by kernel_rfl) ?_
 refine W9 hx2 rfl rfl (by decide) rfl ?_
 refine u7 (fun _=>?_)
 refine Or.inr ?_
 refine A0 _ _ ?_
 refine j5.seqQ fun _ A1 _ _=>?_
 refine kp [(0,_),(1,_),(3,_),(6,_),(8,_)] [(6,_),(501,_),(502,_),(1000,_),(1001,_),(1002,_),(1003,_)] ?_
 refine H7 hn (by kernel_rfl) ?_
 refine W9 hx2 rfl rfl (by decide) rfl ?_
 obtain ⟨hg4,h⟩:=C9 h
 refine dJ5 hg4 rfl rfl ?_
 obtain ⟨r5,hr6,h⟩:=j4 h
 show l7 Try.prog _ _ _ _
 refine cDf ((Spec.drop1 (aU9 N (x1.stack.drop ((wr ((x1.stack.length:Int) - a2.a)).toNat)) r5 hr6)).sw 0 28) ⟨dM9 _,trivial⟩ ?_
 refine W9 hx2 rfl rfl (by decide) rfl ?_
 refine Or.inr ?_
 obtain ⟨x7,hx8,h⟩:=j4 h
 refine V6 hx8 ?_
 refine U3 (u6 hx8).2 ?_
 refine A1 _ _ ?_
 refine j5.seqQ fun _ A2 _ _=>?_
 refine j5.gh (Gh.attach (l':=List.map y7 a0.frames) 1003 501 503 a1 8 rfl rfl rfl (atD hx2) rfl rfl (a96 hx2 rfl) rfl rfl rfl rfl rfl rfl) (fun _=>?_)
 refine kp [(0,_),(1,_),(3,_),(6,_),(8,_),(9,_),(10,_)] [(6,_),(10,_),(28,_),(503,_),(1000,_),(1001,_),(1002,_),(1003,_)] ?_
 refine H7 hn (by kernel_rfl) ?_
 refine U3 hx2 ?_
 refine U3 hx2 ?_
 obtain ⟨x9,hx10,h⟩:=j4 h
 refine I8 hx10 ?_
 refine U3 hx2 ?_
 obtain ⟨x11,hx12,h⟩:=j4 h
 refine I8 hx12 ?_
 refine A2 _ _ ?_
 refine j5.seqQ fun _ A3 _ _=>?_
 refine kp [(0,_),(1,_),(6,_),(8,_),(9,_),(10,_),(11,_)] [(6,_),(10,_),(11,_),(28,_),(503,_),(1000,_),(1001,_),(1002,_),(1003,_)] ?_
 refine j6 hn ?_
 refine U3 hx2 ?_
 obtain ⟨o15,h14,h⟩:=j4 h
 refine jk (ι:={ s // o15=s }) hn (fun s=>[]) (fun s=>[(11,.box [.int x1.class_,.str x11.name,.int s.1] 56)]) [(0,_),(1,_),(6,_),(8,_),(9,_),(10,_),(11,_)] [(6,_),(10,_),(28,_),(503,_),(1000,_),(1001,_),(1002,_),(1003,_)] (fun _ A4 _ _=>?_) ?_
 ·refine l8 hn ?_
  refine l5 h14 (fun hb16 h14=>?_) (fun hb16 h14=>?_)
  ·refine q9 hn ?_
   refine A4 _ _ ?_
   exact jn ⟨_,sj h14⟩ []
  refine q8 hn ?_
  refine A4 _ _ ?_
  exact jn ⟨_,sj h14⟩ []
 rintro ⟨v13,hv_⟩
 replace hv_:=hv_.symm
 subst hv_
 refine A3 _ _ ?_
 refine j5.seqQ fun _ A5 _ _=>?_
 refine kp [(0,_),(1,_),(6,_),(8,_),(9,_),(10,_),(11,_)] [(6,_),(10,_),(11,_),(28,_),(503,_),(1000,_),(1001,_),(1002,_),(1003,_)] ?_
 refine H7 hn (by kernel_rfl) ?_
 obtain ⟨r17,hr18,h⟩:=j4 h
 show l7 Try.prog _ _ _ _
 refine cD (a15 N a0.w.heap x7 r17 hr18) ?_
 obtain ⟨r19,hr20,h⟩:=j4 h
 show l7 Try.prog _ _ _ _
 refine cA (hgl _ _ _ _ hr20) ?_
 refine A5 _ _ ?_
 refine j5.seqQ fun _ A6 _ R6=>?_
 refine kp [(0,_),(1,_),(8,_),(9,_),(10,_),(12,_),(13,_)] [(10,_),(28,_),(503,_),(1000,_),(1001,_),(1002,_),(1003,_)] ?_
 refine j6 hn ?_
 refine l8 hn ?_
 refine l5 h (fun hb21 h=>?_) (fun hb21 h=>?_)
 ·refine j6 hn ?_
  obtain ⟨r22,hr23,h⟩:=j4 h
  show l7 Try.prog _ _ _ _
  refine cA (J8 N (⟨(⟨a0.w.classes,a0.w.heap,a0.w.epoch⟩:Wd),a0.fuel,a0.sends,a0.turns,a0.frames,a0.back,a0.err⟩:l9) (10:Int) r22 hr23) ?_
  refine j5.gh (Gh.reidD 1000 6 1003 504 505 rfl rfl rfl rfl rfl rfl rfl rfl rfl rfl rfl rfl) (fun _=>?_)
  refine got hn ?_
  refine R6 _ _ ?_
  obtain rfl:=Option.some.inj h
  exact ⟨[(4,504),(5,505)],_,fm⟩
 refine q8 hn ?_
 refine A6 _ _ ?_
 refine j5.gh (Gh.detach 1003 506 507 a1 8 rfl rfl (atD hx2) rfl rfl rfl rfl rfl rfl rfl rfl) (fun _=>?_)
 refine kp [(0,_),(1,_),(8,_),(9,_),(10,_),(12,_),(13,_)] [(10,_),(28,_),(506,_),(507,_),(1000,_),(1001,_),(1002,_),(1003,_)] ?_
 refine j6 hn ?_
 refine W9 hx2 rfl rfl (by decide) rfl ?_
 refine Or.inr ?_
 obtain ⟨hg24,h⟩:=C9 h
 refine bK7 hg24 rfl rfl ?_
 refine bC3 hx2 rfl rfl (by decide) ?_
 refine j5.gh (Gh.attach (l':=List.map y7 (a0.frames.set a1 (⟨x1.class_,x1.method,x1.fast,x1.code,x1.self_,x1.args,x1.temps,(x1.stack.take (wr ((wr ((x1.stack.length:Int) - a2.a)) - (1:Int))).toNat),x1.at_⟩:l6))) 1003 102 508 a1 8 rfl rfl rfl (atD hx2) rfl rfl (aR7 rfl) rfl rfl rfl rfl rfl rfl) (fun _=>?_)
 refine kp [(0,_),(1,_),(9,_),(10,_),(12,_),(13,_)] [(10,_),(28,_),(508,_),(1000,_),(1001,_),(1002,_),(1003,_)] ?_
 refine q9 hn ?_
 obtain ⟨r25,hr26,h⟩:=j4 h
 show l7 Try.prog _ _ _ _
 refine cF ((((aR8 N (⟨(⟨a0.w.classes,a0.w.heap,a0.w.epoch⟩:Wd),a0.fuel,a0.sends,a0.turns,(a0.frames.set a1 (⟨x1.class_,x1.method,x1.fast,x1.code,x1.self_,x1.args,x1.temps,(x1.stack.take (wr ((wr ((x1.stack.length:Int) - a2.a)) - (1:Int))).toNat),x1.at_⟩:l6)),a0.back,a0.err⟩:l9) gq r19.1 r19.2 x7 r5 hgq r25 hr26).sw 1005 508).sw 5 509).sw 4 510) ?_
 refine I4.done ?_
 obtain rfl:=Option.some.inj h
 exact ⟨[(4,510),(5,509)],_,fm⟩

/- (*run.machine).jump -/
set_option maxRecDepth 100000 in
set_option maxHeartbeats 8000000 in
theorem aS9 (N:Nat) (a0:l9) (a1:Nat) (a2:Int) {Kl:Nat} {cl_0:List AV} {Kq:Nat} {cq_0:List AV} {cq_1:List AV} (r:l9) (h:aE0 N a0 a1 a2=some r):Spec Try.prog 94 [(1000,.box [.ptr 1001 0,.fn Kl [.fp cl_0],.fn Kq [.fp cq_0,.fp cq_1],.int a0.fuel,.int a0.sends,.int a0.turns,.own 1003,.int a0.back.k,.int a0.back.n,.int a0.err] 123),(1003,.deep 10 160 [(7,(2,27)),(8,(2,27))] (List.map y7 a0.frames) [] 1005)] [.ptr 1000 0,.ep 1003 a1 10 0,.int a2] (.tup []) [(1000,.box [.ptr 1001 0,.fn Kl [.fp cl_0],.fn Kq [.fp cq_0,.fp cq_1],.int r.fuel,.int r.sends,.int r.turns,.own 1003,.int r.back.k,.int r.back.n,.int r.err] 123),(1003,.deep 10 160 [(7,(2,27)),(8,(2,27))] (List.map y7 r.frames) [] 5),(5,.gone)] [5]:=by
 refine Spec.of D5 Try.func94 rfl Try.ntmps94 (by kernel_rfl) rfl rfl rfl fun Γ hn=>?_
 unfold aE0 at h
 refine j5.snoc ?_
 refine j5.seqQ fun _ A0 _ _=>?_
 refine j6 hn ?_
 obtain ⟨x1,hx2,h⟩:=j4 h
 refine U3 hx2 ?_
 obtain ⟨o10,h9,h⟩:=j4 h
 refine jk (ι:={ s // o10=s }) hn (fun s=>[]) (fun s=>[(1000,.box [.ptr 1001 0,.fn Kl [.fp cl_0],.fn Kq [.fp cq_0,.fp cq_1],.int s.1.1,.int s.1.2.1,.int s.1.2.2.1,.own 1003,.int s.1.2.2.2.1,.int s.1.2.2.2.2.1,.int s.1.2.2.2.2.2] 123)]) [(0,_),(1,_),(2,_)] [(1003,_)] (fun _ A1 _ _=>?_) ?_
 ·refine l8 hn ?_
  refine l5 h9 (fun hb11 h9=>?_) (fun hb11 h9=>?_)
  ·refine j6 hn ?_
   refine Or.inr ?_
   refine j6 hn ?_
   obtain ⟨o19,h18,h9⟩:=j4 h9
   refine jk (ι:={ s // o19=s }) hn (fun s=>[]) (fun s=>[(1000,.box [.ptr 1001 0,.fn Kl [.fp cl_0],.fn Kq [.fp cq_0,.fp cq_1],.int s.1.1,.int s.1.2.1,.int s.1.2.2.1,.own 1003,.int s.1.2.2.2.1,.int s.1.2.2.2.2.1,.int s.1.2.2.2.2.2] 123)]) [(0,_),(1,_),(2,_)] [(1003,_)] (fun _ A2 _ _=>?_) ?_
   ·refine l8 hn ?_
    refine l5 h18 (fun hb20 h18=>?_) (fun hb20 h18=>?_)
    ·refine kp [(0,_),(1,_),(2,_)] [(1000,_),(1003,_)] ?_
     refine q9 hn ?_
     obtain ⟨r21,hr22,h18⟩:=j4 h18
     show l7 Try.prog _ _ _ _
     refine cA (J8 N (⟨(⟨a0.w.classes,a0.w.heap,a0.w.epoch⟩:Wd),a0.fuel,a0.sends,(wr (a0.turns+(1:Int))),a0.frames,a0.back,a0.err⟩:l9) (16:Int) r21 hr22) ?_
     refine A2 _ _ ?_
     exact jn ⟨_,sj h18⟩ []
    refine q8 hn ?_
    refine A2 _ _ ?_
    exact jn ⟨_,sj h18⟩ []
   rintro ⟨⟨v12,v13,v14,v15,v16,v17⟩,rfl⟩
   refine A1 _ _ ?_
   exact jn ⟨_,sj h9⟩ []
  refine q8 hn ?_
  refine A1 _ _ ?_
  exact jn ⟨_,sj h9⟩ []
 rintro ⟨⟨v3,v4,v5,v6,v7,v8⟩,rfl⟩
 refine A0 _ _ ?_
 refine q9 hn ?_
 refine stD hx2 rfl rfl rfl ?_
 refine Exists.intro (List.map y7 (a0.frames.set a1 (⟨x1.class_,x1.method,x1.fast,x1.code,x1.self_,x1.args,x1.temps,x1.stack,a2⟩:l6))) (And.intro (aR7 rfl) ?_)
 refine I4.gh (Gh.resh 1003 501 rfl rfl rfl rfl) (fun _=>?_)
 refine I4.done ?_
 obtain rfl:=Option.some.inj h
 exact ⟨[(5,501)],_,fm⟩

/- (*run.machine).guard -/
set_option maxRecDepth 100000 in
set_option maxHeartbeats 8000000 in
theorem bE7 (N:Nat) (a0:l9) (a1:Nat) (a2:Ins) {Kl:Nat} {cl_0:List AV} {Kq:Nat} {cq_0:List AV} {cq_1:List AV} (r:l9) (h:aH0 N a0 a1 a2=some r):Spec Try.prog 96 [(1000,.box [.ptr 1001 0,.fn Kl [.fp cl_0],.fn Kq [.fp cq_0,.fp cq_1],.int a0.fuel,.int a0.sends,.int a0.turns,.own 1003,.int a0.back.k,.int a0.back.n,.int a0.err] 123),(1001,.box [.sl 4 (List.map K7 a0.w.classes),.own 1002,.int a0.w.epoch] 25),(1002,.deep 2 97 [(1,(2,27))] (List.map H8 a0.w.heap) [] 1004),(1003,.deep 10 160 [(7,(2,27)),(8,(2,27))] (List.map y7 a0.frames) [] 1005)] [.ptr 1000 0,.ep 1003 a1 10 0,.agg (J2 a2)] (.tup []) [(1000,.box [.ptr 1001 0,.fn Kl [.fp cl_0],.fn Kq [.fp cq_0,.fp cq_1],.int r.fuel,.int r.sends,.int r.turns,.own 1003,.int r.back.k,.int r.back.n,.int r.err] 123),(1001,.box [.sl 4 (List.map K7 a0.w.classes),.own 1002,.int a0.w.epoch] 25),(1002,.deep 2 97 [(1,(2,27))] (List.map H8 a0.w.heap) [] 1004),(1003,.deep 10 160 [(7,(2,27)),(8,(2,27))] (List.map y7 r.frames) [] 5),(5,.gone)] [5]:=by
 refine Spec.of D5 Try.func96 rfl Try.ntmps96 (by kernel_rfl) rfl rfl rfl fun Γ hn=>?_
 unfold aH0 at h
 refine j5.snoc ?_
 refine j6 hn ?_
 refine j5.seqQ fun _ A0 _ R0=>?_
 refine j5.seqQ fun _ A1 _ _=>?_
 obtain ⟨x1,hx2,h⟩:=j4 h
 refine j5.gh (Gh.detach 1003 501 502 a1 8 rfl rfl (atD hx2) rfl rfl rfl rfl rfl rfl rfl rfl) (fun _=>?_)
 refine kp [(0,_),(1,_),(5,_)] [(5,_),(501,_),(502,_),(1000,_),(1001,_),(1002,_),(1003,_)] ?_
 refine H7 hn (by kernel_rfl) ?_
 refine W9 hx2 rfl rfl (by decide) rfl ?_
 refine W9 hx2 rfl rfl (by decide) rfl ?_
 refine u7 (fun _=>?_)
 refine Or.inr ?_
 refine Or.inr ?_
 obtain ⟨x4,hx5,h⟩:=j4 h
 refine V6 hx5 ?_
 refine U3 (u6 hx5).2 ?_
 obtain ⟨r6,hr7,h⟩:=j4 h
 show l7 Try.prog _ _ _ _
 refine cD (a15 N a0.w.heap x4 r6 hr7) ?_
 refine A1 _ _ ?_
 refine l8 hn ?_
 refine l5 h (fun hb8 h=>?_) (fun hb8 h=>?_)
 ·refine j5.gh (Gh.attach (l':=List.map y7 a0.frames) 1003 501 503 a1 8 rfl rfl rfl (atD hx2) rfl rfl (a96 hx2 rfl) rfl rfl rfl rfl rfl rfl) (fun _=>?_)
  refine got hn ?_
  refine R0 _ _ ?_
  obtain rfl:=Option.some.inj h
  exact ⟨[(5,503)],_,fm⟩
 refine q8 hn ?_
 refine A0 _ _ ?_
 refine j5.seqQ fun _ A2 _ _=>?_
 refine j5.gh (Gh.attach (l':=List.map y7 a0.frames) 1003 501 504 a1 8 rfl rfl rfl (atD hx2) rfl rfl (a96 hx2 rfl) rfl rfl rfl rfl rfl rfl) (fun _=>?_)
 refine kp [(0,_),(1,_),(5,_)] [(5,_),(504,_),(1000,_),(1001,_),(1002,_),(1003,_)] ?_
 refine H7 hn (by kernel_rfl) ?_
 refine U3 hx2 ?_
 obtain ⟨x9,hx10,h⟩:=j4 h
 refine I8 hx10 ?_
 refine U3 hx2 ?_
 obtain ⟨x11,hx12,h⟩:=j4 h
 refine I8 hx12 ?_
 refine A2 _ _ ?_
 refine j5.gh (Gh.detach 1003 505 506 a1 7 rfl rfl (atD hx2) rfl rfl rfl rfl rfl rfl rfl rfl) (fun _=>?_)
 refine kp [(0,_),(1,_),(5,_),(6,_)] [(5,_),(505,_),(506,_),(1000,_),(1001,_),(1002,_),(1003,_)] ?_
 refine H7 hn (by kernel_rfl) ?_
 refine W9 hx2 rfl rfl (by decide) rfl ?_
 obtain ⟨hg13,h⟩:=C9 h
 refine bK7 hg13 rfl rfl ?_
 refine stD hx2 rfl rfl rfl ?_
 refine Exists.intro (List.map y7 (a0.frames.set a1 (⟨x1.class_,x1.method,false,x1.code,x1.self_,x1.args,x1.temps,x1.stack,x1.at_⟩:l6))) (And.intro (aR7 rfl) ?_)
 refine stD (setAt hx2) rfl rfl rfl ?_
 refine Exists.intro (List.map y7 ((a0.frames.set a1 (⟨x1.class_,x1.method,false,x1.code,x1.self_,x1.args,x1.temps,x1.stack,x1.at_⟩:l6)).set a1 (⟨x1.class_,x1.method,false,x11.code,x1.self_,x1.args,x1.temps,x1.stack,x1.at_⟩:l6))) (And.intro (aR7 rfl) ?_)
 refine bC3 (setAt (setAt hx2)) rfl rfl (by decide) ?_
 refine stD (setAt (setAt hx2)) rfl rfl rfl ?_
 refine Exists.intro (List.map y7 (((a0.frames.set a1 (⟨x1.class_,x1.method,false,x1.code,x1.self_,x1.args,x1.temps,x1.stack,x1.at_⟩:l6)).set a1 (⟨x1.class_,x1.method,false,x11.code,x1.self_,x1.args,x1.temps,x1.stack,x1.at_⟩:l6)).set a1 (⟨x1.class_,x1.method,false,x11.code,x1.self_,x1.args,x1.temps,x1.stack,a2.c⟩:l6))) (And.intro (aR7 rfl) ?_)
 refine I4.gh (Gh.attach (l':=List.map y7 ((((a0.frames.set a1 (⟨x1.class_,x1.method,false,x1.code,x1.self_,x1.args,x1.temps,x1.stack,x1.at_⟩:l6)).set a1 (⟨x1.class_,x1.method,false,x11.code,x1.self_,x1.args,x1.temps,x1.stack,x1.at_⟩:l6)).set a1 (⟨x1.class_,x1.method,false,x11.code,x1.self_,x1.args,x1.temps,x1.stack,a2.c⟩:l6)).set a1 (⟨x1.class_,x1.method,false,x11.code,x1.self_,x1.args,(x1.temps.take x11.temps.toNat),x1.stack,a2.c⟩:l6))) 1003 68 507 a1 7 rfl rfl rfl (atD (setAt (setAt (setAt hx2)))) rfl rfl (aR7 rfl) rfl rfl rfl rfl rfl rfl) (fun _=>?_)
 refine I4.done ?_
 obtain rfl:=Option.some.inj h
 exact ⟨[(5,507)],_,fm⟩

/- (*run.machine).put -/
set_option maxRecDepth 100000 in
set_option maxHeartbeats 8000000 in
theorem aU7 (N:Nat) (a0:l9) (a1:V) (a2:Int) (a3:V) {Kl:Nat} {cl_0:List AV} {Kq:Nat} {cq_0:List AV} {cq_1:List AV} (r:l9) (h:aG0 N a0 a1 a2 a3=some r):Spec Try.prog 119 [(1000,.box [.ptr 1001 0,.fn Kl [.fp cl_0],.fn Kq [.fp cq_0,.fp cq_1],.int a0.fuel,.int a0.sends,.int a0.turns,.own 1003,.int a0.back.k,.int a0.back.n,.int a0.err] 123),(1001,.box [.sl 4 (List.map K7 a0.w.classes),.own 1002,.int a0.w.epoch] 25),(1002,.deep 2 97 [(1,(2,27))] (List.map H8 a0.w.heap) [] 1004)] [.ptr 1000 0,.agg (eV a1),.int a2,.agg (eV a3)] (.tup []) [(1000,.box [.ptr 1001 0,.fn Kl [.fp cl_0],.fn Kq [.fp cq_0,.fp cq_1],.int r.fuel,.int r.sends,.int r.turns,.own 1003,.int r.back.k,.int r.back.n,.int r.err] 123),(1001,.box [.sl 4 (List.map K7 a0.w.classes),.own 1002,.int a0.w.epoch] 25),(1002,.deep 2 97 [(1,(2,27))] (List.map H8 r.w.heap) [] 3),(3,.gone)] [3]:=by
 refine Spec.of D5 Try.func119 rfl Try.ntmps119 (by kernel_rfl) rfl rfl rfl fun Γ hn=>?_
 unfold aG0 at h
 refine j5.snoc ?_
 refine j6 hn ?_
 refine j5.seqQ fun _ A0 _ _=>?_
 obtain ⟨o3,h2,h⟩:=j4 h
 refine jk (ι:={ s // o3=s }) hn (fun s=>[(40,.bool s.1)]) (fun s=>[(501,.gone),(1002,.deep 2 97 [(1,(2,27))] (List.map H8 a0.w.heap) [] 501)]) [(0,_),(2,_),(5,_),(7,_)] [(5,_),(7,_),(1000,_),(1001,_)] (fun _ A1 _ _=>?_) ?_
 ·rcases dK1 h2 with ⟨hx5,h2⟩|⟨x4,hx5,h2⟩
  ·refine kp [(0,_),(2,_),(5,_),(7,_)] [(5,_),(7,_),(1000,_),(1001,_),(1002,_)] ?_
   refine H7 hn (by kernel_rfl) ?_
   refine l5 h2 (fun hb6 h2=>?_) (fun hb6 h2=>?_)
   ·refine j3 hb6 ?_
    refine j3 hb6 ?_
    refine j3 hb6 ?_
    refine j3 hb6 ?_
    refine j3 hb6 ?_
    refine j3 hb6 ?_
    refine j3 hb6 ?_
    refine j3 hb6 ?_
    refine j3 hb6 ?_
    refine u7 (fun _=>?_)
    refine j3 hb6 ?_
    refine j3 hb6 ?_
    refine l5 h2 (fun hb8 h2=>?_) (fun hb8 h2=>?_)
    ·refine j3 hb8 ?_
     refine j3 hb8 ?_
     refine j3 hb8 ?_
     refine j3 hb8 ?_
     refine j3 hb8 ?_
     refine j3 hb8 ?_
     refine j3 hb8 ?_
     refine j3 hb8 ?_
     refine j3 hb8 ?_
     refine j3 hb8 ?_
     cases h2
    refine d9 hb8 ?_
    refine d9 hb8 ?_
    refine d9 hb8 ?_
    refine d9 hb8 ?_
    refine d9 hb8 ?_
    refine d9 hb8 ?_
    refine d9 hb8 ?_
    refine d9 hb8 ?_
    refine d9 hb8 ?_
    refine d9 hb8 ?_
    refine d9 hb8 ?_
    refine d9 hb8 ?_
    refine d9 hb8 ?_
    refine d9 hb8 ?_
    refine d9 hb8 ?_
    refine A1 _ _ ?_
    refine I4.gh (Gh.resh 1002 501 rfl rfl rfl rfl) (fun _=>?_)
    exact jn ⟨_,sj h2⟩ []
   refine d9 hb6 ?_
   refine d9 hb6 ?_
   refine d9 hb6 ?_
   refine d9 hb6 ?_
   refine d9 hb6 ?_
   refine d9 hb6 ?_
   refine d9 hb6 ?_
   refine d9 hb6 ?_
   refine d9 hb6 ?_
   refine d9 hb6 ?_
   refine d9 hb6 ?_
   refine A1 _ _ ?_
   refine I4.gh (Gh.resh 1002 502 rfl rfl rfl rfl) (fun _=>?_)
   exact jn ⟨_,sj h2⟩ [(501,502)]
  refine j5.gh (Gh.detach 1002 503 504 a1.n.toNat 1 rfl rfl (atD hx5) rfl rfl rfl rfl rfl rfl rfl rfl) (fun _=>?_)
  refine kp [(0,_),(2,_),(5,_),(7,_)] [(5,_),(7,_),(503,_),(504,_),(1000,_),(1001,_),(1002,_)] ?_
  refine H7 hn (by kernel_rfl) ?_
  refine l5 h2 (fun hb9 h2=>?_) (fun hb9 h2=>?_)
  ·refine j3 hb9 ?_
   refine j3 hb9 ?_
   refine j3 hb9 ?_
   refine j3 hb9 ?_
   refine j3 hb9 ?_
   refine j3 hb9 ?_
   refine j3 hb9 ?_
   refine j3 hb9 ?_
   refine j3 hb9 ?_
   refine u7 (fun _=>?_)
   refine j3 hb9 ?_
   refine j3 hb9 ?_
   refine l5 h2 (fun hb11 h2=>?_) (fun hb11 h2=>?_)
   ·refine j3 hb11 ?_
    refine j3 hb11 ?_
    refine j3 hb11 ?_
    refine j3 hb11 ?_
    refine j3 hb11 ?_
    refine j3 hb11 ?_
    refine j3 hb11 ?_
    refine j3 hb11 ?_
    refine j3 hb11 ?_
    refine j3 hb11 ?_
    obtain ⟨x12,hx13,h2⟩:=j4 h2
    refine ixD hx13 rfl rfl ?_
    refine j3 hb11 ?_
    refine j3 hb11 ?_
    refine W9 hx5 rfl rfl (by decide) rfl ?_
    refine j3 hb11 ?_
    refine u7 (fun _=>?_)
    refine j3 hb11 ?_
    refine j3 hb11 ?_
    refine A1 _ _ ?_
    refine I4.gh (Gh.attach (l':=List.map H8 a0.w.heap) 1002 503 505 a1.n.toNat 1 rfl rfl rfl (atD hx5) rfl rfl (a96 hx5 rfl) rfl rfl rfl rfl rfl rfl) (fun _=>?_)
    exact jn ⟨_,sj h2⟩ [(501,505)]
   refine d9 hb11 ?_
   refine d9 hb11 ?_
   refine d9 hb11 ?_
   refine d9 hb11 ?_
   refine d9 hb11 ?_
   refine d9 hb11 ?_
   refine d9 hb11 ?_
   refine d9 hb11 ?_
   refine d9 hb11 ?_
   refine d9 hb11 ?_
   refine d9 hb11 ?_
   refine d9 hb11 ?_
   refine d9 hb11 ?_
   refine d9 hb11 ?_
   refine d9 hb11 ?_
   refine A1 _ _ ?_
   refine I4.gh (Gh.attach (l':=List.map H8 a0.w.heap) 1002 503 506 a1.n.toNat 1 rfl rfl rfl (atD hx5) rfl rfl (a96 hx5 rfl) rfl rfl rfl rfl rfl rfl) (fun _=>?_)
   exact jn ⟨_,sj h2⟩ [(501,506)]
  refine d9 hb9 ?_
  refine d9 hb9 ?_
  refine d9 hb9 ?_
  refine d9 hb9 ?_
  refine d9 hb9 ?_
  refine d9 hb9 ?_
  refine d9 hb9 ?_
  refine d9 hb9 ?_
  refine d9 hb9 ?_
  refine d9 hb9 ?_
  refine d9 hb9 ?_
  refine A1 _ _ ?_
  refine I4.gh (Gh.attach (l':=List.map H8 a0.w.heap) 1002 503 507 a1.n.toNat 1 rfl rfl rfl (atD hx5) rfl rfl (a96 hx5 rfl) rfl rfl rfl rfl rfl rfl) (fun _=>?_)
  exact jn ⟨_,sj h2⟩ [(501,507)]
 rintro ⟨v1,hv_⟩
 replace hv_:=hv_.symm
 subst hv_
 refine A0 _ _ ?_
 obtain ⟨o17,h16,h⟩:=j4 h
 refine jk (ι:={ s // o17=s }) hn (fun s=>[]) (fun s=>[(508,.gone),(1002,.deep 2 97 [(1,(2,27))] (List.map H8 s.1) [] 508)]) [(0,_)] [(1000,_),(1001,_)] (fun _ A2 _ _=>?_) ?_
 ·refine l8 hn ?_
  refine l5 h16 (fun hb18 h16=>?_) (fun hb18 h16=>?_)
  ·rcases dK1 h16 with ⟨hx20,h16⟩|⟨x19,hx20,h16⟩
   ·refine H7 hn (by kernel_rfl) ?_
    cases h16
   refine j5.gh (Gh.detach 1002 508 509 a1.n.toNat 1 rfl rfl (atD hx20) rfl rfl rfl rfl rfl rfl rfl rfl) (fun _=>?_)
   refine kp [(0,_),(2,_),(5,_),(7,_)] [(5,_),(7,_),(508,_),(509,_),(1000,_),(1001,_),(1002,_)] ?_
   refine H7 hn (by kernel_rfl) ?_
   obtain ⟨x21,hx22,h16⟩:=j4 h16
   refine ixD hx22 rfl rfl ?_
   refine W9 hx20 rfl rfl (by decide) rfl ?_
   obtain ⟨x23,hx24,h16⟩:=j4 h16
   refine V6 hx24 ?_
   refine U3 (u6 hx24).2 ?_
   refine Exists.intro (List.map eV (x19.slots.set a2.toNat a3)) (And.intro (aP3 (u6 hx24).2 (by repeat (first|exact trivial|exact rfl|(refine And.intro ?_ ?_)))) ?_)
   refine A2 _ _ ?_
   refine I4.gh (Gh.attach (l':=List.map H8 (a0.w.heap.set a1.n.toNat (⟨x19.cls,(x19.slots.set a2.toNat a3)⟩:Ob))) 1002 508 510 a1.n.toNat 1 rfl rfl rfl (atD hx20) rfl rfl (aR7 rfl) rfl rfl rfl rfl rfl rfl) (fun _=>?_)
   exact jn ⟨_,sj h16⟩ [(508,510)]
  refine q8 hn ?_
  refine A2 _ _ ?_
  exact jn ⟨_,sj h16⟩ [(508,501)]
 rintro ⟨v15,hv_⟩
 replace hv_:=hv_.symm
 subst hv_
 refine I4.done ?_
 obtain rfl:=Option.some.inj h
 exact ⟨[(3,508)],_,fm⟩

/- (*run.machine).move -/
set_option maxRecDepth 100000 in
set_option maxHeartbeats 8000000 in
theorem bG8 (N:Nat) (a0:l9) (a1:Nat) (a2:Ins) {Kl:Nat} {cl_0:List AV} {Kq:Nat} {cq_0:List AV} {cq_1:List AV} (r:l9) (h:aK7 N a0 a1 a2=some r):Spec Try.prog 97 [(1000,.box [.ptr 1001 0,.fn Kl [.fp cl_0],.fn Kq [.fp cq_0,.fp cq_1],.int a0.fuel,.int a0.sends,.int a0.turns,.own 1003,.int a0.back.k,.int a0.back.n,.int a0.err] 123),(1001,.box [.sl 4 (List.map K7 a0.w.classes),.own 1002,.int a0.w.epoch] 25),(1002,.deep 2 97 [(1,(2,27))] (List.map H8 a0.w.heap) [] 1004),(1003,.deep 10 160 [(7,(2,27)),(8,(2,27))] (List.map y7 a0.frames) [] 1005)] [.ptr 1000 0,.ep 1003 a1 10 0,.agg (J2 a2)] (.tup []) [(1000,.box [.ptr 1001 0,.fn Kl [.fp cl_0],.fn Kq [.fp cq_0,.fp cq_1],.int r.fuel,.int r.sends,.int r.turns,.own 1003,.int r.back.k,.int r.back.n,.int r.err] 123),(1001,.box [.sl 4 (List.map K7 r.w.classes),.own 2,.int r.w.epoch] 25),(2,.deep 2 97 [(1,(2,27))] (List.map H8 r.w.heap) [] 3),(3,.gone),(1002,.gone),(1003,.deep 10 160 [(7,(2,27)),(8,(2,27))] (List.map y7 r.frames) [] 5),(5,.gone)] [3,2,5]:=by
 refine Spec.of D5 Try.func97 rfl Try.ntmps97 (by kernel_rfl) rfl rfl rfl fun Γ hn=>?_
 unfold aK7 at h
 refine j5.snoc ?_
 refine j6 hn ?_
 refine j6 hn ?_
 refine j6 hn ?_
 obtain ⟨o10,h9,h⟩:=j4 h
 refine jk (ι:={ s // o10=D7.next s }) hn (fun s=>[]) (fun s=>[(186,.deep 2 97 [(1,(2,27))] (List.map H8 s.1.1) [] 518),(501,.gone),(518,.gone),(1000,.box [.ptr 1001 0,.fn Kl [.fp cl_0],.fn Kq [.fp cq_0,.fp cq_1],.int s.1.2.1,.int s.1.2.2.1,.int s.1.2.2.2.1,.own 1003,.int s.1.2.2.2.2.2.1,.int s.1.2.2.2.2.2.2.1,.int s.1.2.2.2.2.2.2.2] 123),(1001,.box [.sl 4 (List.map K7 a0.w.classes),.own 186,.int a0.w.epoch] 25),(1002,.gone),(1003,.deep 10 160 [(7,(2,27)),(8,(2,27))] (List.map y7 s.1.2.2.2.2.1) [] 501)]) [(0,_),(1,_)] [] (fun _ A0 _ R0=>?_) ?_
 ·refine j5.blkQ fun _ A1 _ _ R1=>?_
  refine j6 hn ?_
  obtain ⟨o20,h19,h9⟩:=j4 h9
  refine jk (ι:={ s // o20=D7.next s }) hn (fun s=>[]) (fun s=>[(186,.deep 2 97 [(1,(2,27))] (List.map H8 s.1.1) [] 518),(501,.gone),(518,.gone),(1000,.box [.ptr 1001 0,.fn Kl [.fp cl_0],.fn Kq [.fp cq_0,.fp cq_1],.int s.1.2.1,.int s.1.2.2.1,.int s.1.2.2.2.1,.own 1003,.int s.1.2.2.2.2.2.1,.int s.1.2.2.2.2.2.2.1,.int s.1.2.2.2.2.2.2.2] 123),(1001,.box [.sl 4 (List.map K7 a0.w.classes),.own 186,.int a0.w.epoch] 25),(1002,.gone),(1003,.deep 10 160 [(7,(2,27)),(8,(2,27))] (List.map y7 s.1.2.2.2.2.1) [] 501)]) [(0,_),(1,_)] [] (fun _ A2 _ R2=>?_) ?_
  ·refine l8 hn ?_
   refine l5 h19 (fun hb21 h19=>?_) (fun hb21 h19=>?_)
   ·refine q9 hn ?_
    obtain ⟨x22,hx23,h19⟩:=j4 h19
    refine U3 hx23 ?_
    obtain ⟨r24,hr25,h19⟩:=j4 h19
    show l7 Try.prog _ _ _ _
    refine cA ((Q5 N x22.self_ a0.frames a1 r24 hr25).swl [(1016,4),(1019,1003),(1021,1005),(21,501)] rfl) ?_
    refine A2 _ _ ?_
    refine I4.gh (Gh.reidD 1001 1 1002 502 503 rfl rfl rfl rfl rfl rfl rfl rfl rfl rfl rfl rfl) (fun _=>?_)
    exact jn ⟨_,sj h19⟩ [(186,502),(518,503)]
   refine j6 hn ?_
   obtain ⟨o35,h34,h19⟩:=j4 h19
   refine jk (ι:={ s // o35=D7.next s }) hn (fun s=>[]) (fun s=>[(186,.deep 2 97 [(1,(2,27))] (List.map H8 s.1.1) [] 520),(504,.gone),(520,.gone),(1000,.box [.ptr 1001 0,.fn Kl [.fp cl_0],.fn Kq [.fp cq_0,.fp cq_1],.int s.1.2.1,.int s.1.2.2.1,.int s.1.2.2.2.1,.own 1003,.int s.1.2.2.2.2.2.1,.int s.1.2.2.2.2.2.2.1,.int s.1.2.2.2.2.2.2.2] 123),(1001,.box [.sl 4 (List.map K7 a0.w.classes),.own 186,.int a0.w.epoch] 25),(1002,.gone),(1003,.deep 10 160 [(7,(2,27)),(8,(2,27))] (List.map y7 s.1.2.2.2.2.1) [] 504)]) [(0,_),(1,_)] [] (fun _ A3 _ R3=>?_) ?_
   ·refine l8 hn ?_
    refine l5 h34 (fun hb36 h34=>?_) (fun hb36 h34=>?_)
    ·refine H7 hn (by kernel_rfl) ?_
     obtain ⟨x37,hx38,h34⟩:=j4 h34
     refine U3 hx38 ?_
     obtain ⟨x39,hx40,h34⟩:=j4 h34
     refine I8 hx40 ?_
     obtain ⟨r41,hr42,h34⟩:=j4 h34
     show l7 Try.prog _ _ _ _
     refine cA ((Q5 N x39 a0.frames a1 r41 hr42).swl [(1016,4),(1019,1003),(1021,1005),(21,504)] rfl) ?_
     refine A3 _ _ ?_
     refine I4.gh (Gh.reidD 1001 1 1002 505 506 rfl rfl rfl rfl rfl rfl rfl rfl rfl rfl rfl rfl) (fun _=>?_)
     exact jn ⟨_,sj h34⟩ [(186,505),(520,506)]
    refine j6 hn ?_
    obtain ⟨o52,h51,h34⟩:=j4 h34
    refine jk (ι:={ s // o52=D7.next s }) hn (fun s=>[]) (fun s=>[(186,.deep 2 97 [(1,(2,27))] (List.map H8 s.1.1) [] 522),(507,.gone),(522,.gone),(1000,.box [.ptr 1001 0,.fn Kl [.fp cl_0],.fn Kq [.fp cq_0,.fp cq_1],.int s.1.2.1,.int s.1.2.2.1,.int s.1.2.2.2.1,.own 1003,.int s.1.2.2.2.2.2.1,.int s.1.2.2.2.2.2.2.1,.int s.1.2.2.2.2.2.2.2] 123),(1001,.box [.sl 4 (List.map K7 a0.w.classes),.own 186,.int a0.w.epoch] 25),(1002,.gone),(1003,.deep 10 160 [(7,(2,27)),(8,(2,27))] (List.map y7 s.1.2.2.2.2.1) [] 507)]) [(0,_),(1,_)] [] (fun _ A4 _ R4=>?_) ?_
    ·refine l8 hn ?_
     refine l5 h51 (fun hb53 h51=>?_) (fun hb53 h51=>?_)
     ·obtain ⟨x54,hx55,h51⟩:=j4 h51
      refine j5.gh (Gh.detach 1003 507 508 a1 7 rfl rfl (atD hx55) rfl rfl rfl rfl rfl rfl rfl rfl) (fun _=>?_)
      refine kp [(0,_),(1,_),(4,_),(5,_),(6,_)] [(4,_),(5,_),(507,_),(508,_),(1000,_),(1001,_),(1002,_),(1003,_)] ?_
      refine H7 hn (by kernel_rfl) ?_
      refine W9 hx55 rfl rfl (by decide) rfl ?_
      obtain ⟨x56,hx57,h51⟩:=j4 h51
      refine V6 hx57 ?_
      refine U3 (u6 hx57).2 ?_
      obtain ⟨r58,hr59,h51⟩:=j4 h51
      show l7 Try.prog _ _ _ _
      refine cA ((aU6 N x56 a0.frames a1 r58 hr59).swl [(1022,507),(1016,4),(1019,1003),(1021,508),(21,509)] rfl) ?_
      obtain ⟨x60,hx61,h51⟩:=j4 h51
      refine A4 _ _ ?_
      refine I4.gh (Gh.attach (l':=List.map y7 (r58.set a1 (⟨x60.class_,x60.method,x60.fast,x60.code,x60.self_,x60.args,x54.temps,x60.stack,x60.at_⟩:l6))) 1003 507 510 a1 7 rfl rfl rfl (atD hx61) rfl rfl (aR7 rfl) rfl rfl rfl rfl rfl rfl) (fun _=>?_)
      refine I4.gh (Gh.reidD 1001 1 1002 511 512 rfl rfl rfl rfl rfl rfl rfl rfl rfl rfl rfl rfl) (fun _=>?_)
      exact jn ⟨_,sj h51⟩ [(186,511),(522,512),(507,510)]
     refine j6 hn ?_
     obtain ⟨o71,h70,h51⟩:=j4 h51
     refine jk (ι:={ s // o71=D7.next s }) hn (fun s=>[]) (fun s=>[(186,.deep 2 97 [(1,(2,27))] (List.map H8 s.1.1) [] 525),(513,.gone),(525,.gone),(1000,.box [.ptr 1001 0,.fn Kl [.fp cl_0],.fn Kq [.fp cq_0,.fp cq_1],.int s.1.2.1,.int s.1.2.2.1,.int s.1.2.2.2.1,.own 1003,.int s.1.2.2.2.2.2.1,.int s.1.2.2.2.2.2.2.1,.int s.1.2.2.2.2.2.2.2] 123),(1001,.box [.sl 4 (List.map K7 a0.w.classes),.own 186,.int a0.w.epoch] 25),(1002,.gone),(1003,.deep 10 160 [(7,(2,27)),(8,(2,27))] (List.map y7 s.1.2.2.2.2.1) [] 513)]) [(0,_),(1,_)] [] (fun _ A5 _ R5=>?_) ?_
     ·refine l8 hn ?_
      refine l5 h70 (fun hb72 h70=>?_) (fun hb72 h70=>?_)
      ·refine kp [(0,_),(1,_),(4,_),(5,_),(6,_)] [(4,_),(5,_),(1000,_),(1001,_),(1002,_),(1003,_)] ?_
       refine H7 hn (by kernel_rfl) ?_
       obtain ⟨x73,hx74,h70⟩:=j4 h70
       refine U3 hx74 ?_
       obtain ⟨r75,hr76,h70⟩:=j4 h70
       show l7 Try.prog _ _ _ _
       refine cD (bS6 N a0.w.heap x73.self_ a2.a r75 hr76) ?_
       obtain ⟨r77,hr78,h70⟩:=j4 h70
       show l7 Try.prog _ _ _ _
       refine cA ((Q5 N r75 a0.frames a1 r77 hr78).swl [(1016,4),(1019,1003),(1021,1005),(21,513)] rfl) ?_
       refine A5 _ _ ?_
       refine I4.gh (Gh.reidD 1001 1 1002 514 515 rfl rfl rfl rfl rfl rfl rfl rfl rfl rfl rfl rfl) (fun _=>?_)
       exact jn ⟨_,sj h70⟩ [(186,514),(525,515)]
      refine kp [(0,_),(1,_),(4,_),(5,_),(6,_),(12,_)] [(4,_),(5,_),(1000,_),(1001,_),(1002,_),(1003,_)] ?_
      refine j6 hn ?_
      obtain ⟨o88,h87,h70⟩:=j4 h70
      refine jk (ι:={ s // o88=D7.next s }) hn (fun s=>[]) (fun s=>[(186,.deep 2 97 [(1,(2,27))] (List.map H8 s.1.1) [] 527),(516,.gone),(527,.gone),(1000,.box [.ptr 1001 0,.fn Kl [.fp cl_0],.fn Kq [.fp cq_0,.fp cq_1],.int s.1.2.1,.int s.1.2.2.1,.int s.1.2.2.2.1,.own 1003,.int s.1.2.2.2.2.2.1,.int s.1.2.2.2.2.2.2.1,.int s.1.2.2.2.2.2.2.2] 123),(1001,.box [.sl 4 (List.map K7 a0.w.classes),.own 186,.int a0.w.epoch] 25),(1002,.gone),(1003,.deep 10 160 [(7,(2,27)),(8,(2,27))] (List.map y7 s.1.2.2.2.2.1) [] 516)]) [(0,_),(1,_)] [] (fun _ A6 _ R6=>?_) ?_
      ·refine l8 hn ?_
       refine l5 h87 (fun hb89 h87=>?_) (fun hb89 h87=>?_)
       ·refine q9 hn ?_
        obtain ⟨r90,hr91,h87⟩:=j4 h87
        show l7 Try.prog _ _ _ _
        refine cA ((Q5 N (⟨(3:Int),a2.a⟩:V) a0.frames a1 r90 hr91).swl [(1016,4),(1019,1003),(1021,1005),(21,516)] rfl) ?_
        refine A6 _ _ ?_
        refine I4.gh (Gh.reidD 1001 1 1002 517 518 rfl rfl rfl rfl rfl rfl rfl rfl rfl rfl rfl rfl) (fun _=>?_)
        exact jn ⟨_,sj h87⟩ [(186,517),(527,518)]
       refine j6 hn ?_
       obtain ⟨o101,h100,h87⟩:=j4 h87
       refine jk (ι:={ s // o101=D7.next s }) hn (fun s=>[]) (fun s=>[(186,.deep 2 97 [(1,(2,27))] (List.map H8 s.1.1) [] 529),(519,.gone),(529,.gone),(1000,.box [.ptr 1001 0,.fn Kl [.fp cl_0],.fn Kq [.fp cq_0,.fp cq_1],.int s.1.2.1,.int s.1.2.2.1,.int s.1.2.2.2.1,.own 1003,.int s.1.2.2.2.2.2.1,.int s.1.2.2.2.2.2.2.1,.int s.1.2.2.2.2.2.2.2] 123),(1001,.box [.sl 4 (List.map K7 a0.w.classes),.own 186,.int a0.w.epoch] 25),(1002,.gone),(1003,.deep 10 160 [(7,(2,27)),(8,(2,27))] (List.map y7 s.1.2.2.2.2.1) [] 519)]) [(0,_),(1,_)] [] (fun _ A7 _ R7=>?_) ?_
       ·refine l8 hn ?_
        refine l5 h100 (fun hb102 h100=>?_) (fun hb102 h100=>?_)
        ·refine q9 hn ?_
         obtain ⟨r103,hr104,h100⟩:=j4 h100
         show l7 Try.prog _ _ _ _
         refine cA ((Q5 N (⟨(0:Int),(0:Int)⟩:V) a0.frames a1 r103 hr104).swl [(1016,4),(1019,1003),(1021,1005),(21,519)] rfl) ?_
         refine A7 _ _ ?_
         refine I4.gh (Gh.reidD 1001 1 1002 520 521 rfl rfl rfl rfl rfl rfl rfl rfl rfl rfl rfl rfl) (fun _=>?_)
         exact jn ⟨_,sj h100⟩ [(186,520),(529,521)]
        refine j5.seqQ fun _ A8 _ _=>?_
        refine j6 hn ?_
        obtain ⟨o107,h106,h100⟩:=j4 h100
        refine jk (ι:={ s // o107=s }) hn (fun s=>[(75,.bool s.1)]) (fun s=>[]) [(0,_),(1,_),(4,_),(5,_),(6,_),(12,_)] [(4,_),(5,_),(1000,_),(1001,_),(1002,_),(1003,_)] (fun _ A9 _ _=>?_) ?_
        ·refine l8 hn ?_
         refine l5 h106 (fun hb108 h106=>?_) (fun hb108 h106=>?_)
         ·refine q8 hn ?_
          refine A9 _ _ ?_
          exact jn ⟨_,sj h106⟩ []
         refine q9 hn ?_
         refine A9 _ _ ?_
         exact jn ⟨_,sj h106⟩ []
        rintro ⟨v105,hv_⟩
        replace hv_:=hv_.symm
        subst hv_
        refine A8 _ _ ?_
        obtain ⟨o118,h117,h100⟩:=j4 h100
        refine jk (ι:={ s // o118=D7.next s }) hn (fun s=>[]) (fun s=>[(186,.deep 2 97 [(1,(2,27))] (List.map H8 s.1.1) [] 531),(522,.gone),(531,.gone),(1000,.box [.ptr 1001 0,.fn Kl [.fp cl_0],.fn Kq [.fp cq_0,.fp cq_1],.int s.1.2.1,.int s.1.2.2.1,.int s.1.2.2.2.1,.own 1003,.int s.1.2.2.2.2.2.1,.int s.1.2.2.2.2.2.2.1,.int s.1.2.2.2.2.2.2.2] 123),(1001,.box [.sl 4 (List.map K7 a0.w.classes),.own 186,.int a0.w.epoch] 25),(1002,.gone),(1003,.deep 10 160 [(7,(2,27)),(8,(2,27))] (List.map y7 s.1.2.2.2.2.1) [] 522)]) [(0,_),(1,_)] [] (fun _ A10 _ R10=>?_) ?_
        ·refine l8 hn ?_
         refine l5 h117 (fun hb119 h117=>?_) (fun hb119 h117=>?_)
         ·refine q9 hn ?_
          obtain ⟨r120,hr121,h117⟩:=j4 h117
          show l7 Try.prog _ _ _ _
          refine cA (bD4 N (decide (a2.op=(8:Int))) r120 hr121) ?_
          obtain ⟨r122,hr123,h117⟩:=j4 h117
          show l7 Try.prog _ _ _ _
          refine cA ((Q5 N r120 a0.frames a1 r122 hr123).swl [(1016,4),(1019,1003),(1021,1005),(21,522)] rfl) ?_
          refine A10 _ _ ?_
          refine I4.gh (Gh.reidD 1001 1 1002 523 524 rfl rfl rfl rfl rfl rfl rfl rfl rfl rfl rfl rfl) (fun _=>?_)
          exact jn ⟨_,sj h117⟩ [(186,523),(531,524)]
         refine j6 hn ?_
         obtain ⟨o133,h132,h117⟩:=j4 h117
         refine jk (ι:={ s // o133=D7.next s }) hn (fun s=>[]) (fun s=>[(186,.deep 2 97 [(1,(2,27))] (List.map H8 s.1.1) [] 533),(525,.gone),(533,.gone),(1000,.box [.ptr 1001 0,.fn Kl [.fp cl_0],.fn Kq [.fp cq_0,.fp cq_1],.int s.1.2.1,.int s.1.2.2.1,.int s.1.2.2.2.1,.own 1003,.int s.1.2.2.2.2.2.1,.int s.1.2.2.2.2.2.2.1,.int s.1.2.2.2.2.2.2.2] 123),(1001,.box [.sl 4 (List.map K7 a0.w.classes),.own 186,.int a0.w.epoch] 25),(1002,.gone),(1003,.deep 10 160 [(7,(2,27)),(8,(2,27))] (List.map y7 s.1.2.2.2.2.1) [] 525)]) [(0,_),(1,_)] [] (fun _ A11 _ R11=>?_) ?_
         ·refine l8 hn ?_
          refine l5 h132 (fun hb134 h132=>?_) (fun hb134 h132=>?_)
          ·refine q9 hn ?_
           obtain ⟨r135,hr136,h132⟩:=j4 h132
           show l7 Try.prog _ _ _ _
           refine cA ((aP2 N a0.frames a1 r135 hr136).sw 5 525) ?_
           refine A11 _ _ ?_
           refine I4.gh (Gh.reidD 1001 1 1002 526 527 rfl rfl rfl rfl rfl rfl rfl rfl rfl rfl rfl rfl) (fun _=>?_)
           exact jn ⟨_,sj h132⟩ [(186,526),(533,527)]
          refine j6 hn ?_
          obtain ⟨o146,h145,h132⟩:=j4 h132
          refine jk (ι:={ s // o146=D7.next s }) hn (fun s=>[]) (fun s=>[(186,.deep 2 97 [(1,(2,27))] (List.map H8 s.1.1) [] 535),(528,.gone),(535,.gone),(1000,.box [.ptr 1001 0,.fn Kl [.fp cl_0],.fn Kq [.fp cq_0,.fp cq_1],.int s.1.2.1,.int s.1.2.2.1,.int s.1.2.2.2.1,.own 1003,.int s.1.2.2.2.2.2.1,.int s.1.2.2.2.2.2.2.1,.int s.1.2.2.2.2.2.2.2] 123),(1001,.box [.sl 4 (List.map K7 a0.w.classes),.own 186,.int a0.w.epoch] 25),(1002,.gone),(1003,.deep 10 160 [(7,(2,27)),(8,(2,27))] (List.map y7 s.1.2.2.2.2.1) [] 528)]) [(0,_),(1,_)] [] (fun _ A12 _ R12=>?_) ?_
          ·refine l8 hn ?_
           refine l5 h145 (fun hb147 h145=>?_) (fun hb147 h145=>?_)
           ·obtain ⟨x148,hx149,h145⟩:=j4 h145
            refine j5.gh (Gh.detach 1003 528 529 a1 8 rfl rfl (atD hx149) rfl rfl rfl rfl rfl rfl rfl rfl) (fun _=>?_)
            refine kp [(0,_),(1,_),(4,_),(6,_)] [(4,_),(528,_),(529,_),(1000,_),(1001,_),(1002,_),(1003,_)] ?_
            refine H7 hn (by kernel_rfl) ?_
            refine W9 hx149 rfl rfl (by decide) rfl ?_
            refine W9 hx149 rfl rfl (by decide) rfl ?_
            refine u7 (fun _=>?_)
            refine Or.inr ?_
            obtain ⟨x151,hx152,h145⟩:=j4 h145
            refine V6 hx152 ?_
            refine U3 (u6 hx152).2 ?_
            obtain ⟨r153,hr154,h145⟩:=j4 h145
            show l7 Try.prog _ _ _ _
            refine cA ((bJ5 N x151 x148.stack a0.frames a1 r153 hr154).swl [(1022,528),(1016,4),(1019,1003),(1021,529),(22,530)] rfl) ?_
            refine A12 _ _ ?_
            refine I4.gh (Gh.attach (l':=List.map y7 (a0.frames.set a1 (⟨x148.class_,x148.method,x148.fast,x148.code,x148.self_,x148.args,x148.temps,r153,x148.at_⟩:l6))) 1003 530 531 a1 8 rfl rfl rfl (atD hx149) rfl rfl (aR7 rfl) rfl rfl rfl rfl rfl rfl) (fun _=>?_)
            refine I4.gh (Gh.reidD 1001 1 1002 532 533 rfl rfl rfl rfl rfl rfl rfl rfl rfl rfl rfl rfl) (fun _=>?_)
            exact jn ⟨_,sj h145⟩ [(186,532),(535,533),(528,531)]
           refine j6 hn ?_
           obtain ⟨o164,h163,h145⟩:=j4 h145
           refine jk (ι:={ s // o164=D7.next s }) hn (fun s=>[]) (fun s=>[(186,.deep 2 97 [(1,(2,27))] (List.map H8 s.1.1) [] 538),(534,.gone),(538,.gone),(1000,.box [.ptr 1001 0,.fn Kl [.fp cl_0],.fn Kq [.fp cq_0,.fp cq_1],.int s.1.2.1,.int s.1.2.2.1,.int s.1.2.2.2.1,.own 1003,.int s.1.2.2.2.2.2.1,.int s.1.2.2.2.2.2.2.1,.int s.1.2.2.2.2.2.2.2] 123),(1001,.box [.sl 4 (List.map K7 a0.w.classes),.own 186,.int a0.w.epoch] 25),(1002,.gone),(1003,.deep 10 160 [(7,(2,27)),(8,(2,27))] (List.map y7 s.1.2.2.2.2.1) [] 534)]) [(0,_),(1,_)] [] (fun _ A13 _ R13=>?_) ?_
           ·refine l8 hn ?_
            refine l5 h163 (fun hb165 h163=>?_) (fun hb165 h163=>?_)
            ·obtain ⟨x166,hx167,h163⟩:=j4 h163
             refine j5.gh (Gh.detach 1003 534 535 a1 7 rfl rfl (atD hx167) rfl rfl rfl rfl rfl rfl rfl rfl) (fun _=>?_)
             refine kp [(0,_),(1,_),(4,_),(5,_)] [(4,_),(5,_),(534,_),(535,_),(1000,_),(1001,_),(1002,_),(1003,_)] ?_
             refine c94 3 7 hn (by kernel_rfl) ?_
             refine W9 hx167 rfl rfl (by decide) rfl ?_
             obtain ⟨r168,hr169,h163⟩:=j4 h163
             show l7 Try.prog _ _ _ _
             refine cA ((((bC9 N a0.frames a1 r168 hr169).sw 1005 535).sw 1006 534).sw 5 536) ?_
             obtain ⟨x170,hx171,h163⟩:=j4 h163
             refine And.intro ⟨rfl,⟨rfl,trivial⟩,W9 hx171 rfl rfl (by decide) rfl ⟨rfl,rfl,rfl,rfl⟩⟩ ?_
             obtain ⟨x172,hx173,h163⟩:=j4 h163
             refine V6 hx173 ?_
             refine U3 (u6 hx173).2 ?_
             refine Exists.intro (List.map eV (x166.temps.set a2.a.toNat r168.1)) (And.intro (aP3 (u6 hx173).2 (by repeat (first|exact trivial|exact rfl|(refine And.intro ?_ ?_)))) ?_)
             refine A13 _ _ ?_
             refine I4.gh (Gh.attach (l':=List.map y7 (r168.2.set a1 (⟨x170.class_,x170.method,x170.fast,x170.code,x170.self_,x170.args,(x166.temps.set a2.a.toNat r168.1),x170.stack,x170.at_⟩:l6))) 1003 534 537 a1 7 rfl rfl rfl (atD hx171) rfl rfl (aR7 rfl) rfl rfl rfl rfl rfl rfl) (fun _=>?_)
             refine I4.gh (Gh.reidD 1001 1 1002 538 539 rfl rfl rfl rfl rfl rfl rfl rfl rfl rfl rfl rfl) (fun _=>?_)
             exact jn ⟨_,sj h163⟩ [(186,538),(538,539),(534,537)]
            refine j6 hn ?_
            obtain ⟨o183,h182,h163⟩:=j4 h163
            refine jk (ι:={ s // o183=D7.next s }) hn (fun s=>[]) (fun s=>[(186,.deep 2 97 [(1,(2,27))] (List.map H8 s.1.1) [] 541),(540,.gone),(541,.gone),(1000,.box [.ptr 1001 0,.fn Kl [.fp cl_0],.fn Kq [.fp cq_0,.fp cq_1],.int s.1.2.1,.int s.1.2.2.1,.int s.1.2.2.2.1,.own 1003,.int s.1.2.2.2.2.2.1,.int s.1.2.2.2.2.2.2.1,.int s.1.2.2.2.2.2.2.2] 123),(1001,.box [.sl 4 (List.map K7 a0.w.classes),.own 186,.int a0.w.epoch] 25),(1002,.gone),(1003,.deep 10 160 [(7,(2,27)),(8,(2,27))] (List.map y7 s.1.2.2.2.2.1) [] 540)]) [(0,_),(1,_)] [] (fun _ A14 _ R14=>?_) ?_
            ·refine l8 hn ?_
             refine l5 h182 (fun hb184 h182=>?_) (fun hb184 h182=>?_)
             ·refine c94 4 8 hn (by kernel_rfl) ?_
              obtain ⟨x185,hx186,h182⟩:=j4 h182
              refine U3 hx186 ?_
              obtain ⟨r187,hr188,h182⟩:=j4 h182
              show l7 Try.prog _ _ _ _
              refine cA ((aP2 N a0.frames a1 r187 hr188).sw 5 540) ?_
              obtain ⟨x189,hx190,h182⟩:=j4 h182
              refine And.intro ⟨rfl,⟨rfl,trivial⟩,U3 hx190 ⟨congrArg (fun v=>AV.agg (eV v)) (bV5 hr188 hx186 hx190),rfl,rfl,rfl⟩⟩ ?_
              obtain ⟨r191,hr192,h182⟩:=j4 h182
              show l7 Try.prog _ _ _ _
              refine cA ((aU7 N (⟨(⟨a0.w.classes,a0.w.heap,a0.w.epoch⟩:Wd),a0.fuel,a0.sends,a0.turns,r187.2,a0.back,a0.err⟩:l9) x185.self_ a2.a r187.1 r191 hr192).sw 3 541) ?_
              refine A14 _ _ ?_
              refine I4.gh (Gh.reidD 1001 1 1002 542 543 rfl rfl rfl rfl rfl rfl rfl rfl rfl rfl rfl rfl) (fun _=>?_)
              exact jn ⟨_,sj h182⟩ [(186,542),(541,543)]
             refine j6 hn ?_
             obtain ⟨o202,h201,h182⟩:=j4 h182
             refine jk (ι:={ s // o202=D7.next s }) hn (fun s=>[]) (fun s=>[(186,.deep 2 97 [(1,(2,27))] (List.map H8 s.1.1) [] 550),(544,.gone),(550,.gone),(1000,.box [.ptr 1001 0,.fn Kl [.fp cl_0],.fn Kq [.fp cq_0,.fp cq_1],.int s.1.2.1,.int s.1.2.2.1,.int s.1.2.2.2.1,.own 1003,.int s.1.2.2.2.2.2.1,.int s.1.2.2.2.2.2.2.1,.int s.1.2.2.2.2.2.2.2] 123),(1001,.box [.sl 4 (List.map K7 a0.w.classes),.own 186,.int a0.w.epoch] 25),(1002,.gone),(1003,.deep 10 160 [(7,(2,27)),(8,(2,27))] (List.map y7 s.1.2.2.2.2.1) [] 544)]) [(0,_),(1,_)] [] (fun _ A15 _ R15=>?_) ?_
             ·refine l8 hn ?_
              refine l5 h201 (fun hb203 h201=>?_) (fun hb203 h201=>?_)
              ·obtain ⟨x204,hx205,h201⟩:=j4 h201
               refine j5.gh (Gh.detach 1003 544 545 a1 7 rfl rfl (atD hx205) rfl rfl rfl rfl rfl rfl rfl rfl) (fun _=>?_)
               refine kp [(0,_),(1,_),(4,_),(5,_),(6,_)] [(4,_),(5,_),(544,_),(545,_),(1000,_),(1001,_),(1002,_),(1003,_)] ?_
               refine H7 hn (by kernel_rfl) ?_
               refine W9 hx205 rfl rfl (by decide) rfl ?_
               obtain ⟨x206,hx207,h201⟩:=j4 h201
               refine V6 hx207 ?_
               refine U3 (u6 hx207).2 ?_
               obtain ⟨r208,hr209,h201⟩:=j4 h201
               show l7 Try.prog _ _ _ _
               refine cD (bS6 N a0.w.heap x206 a2.b r208 hr209) ?_
               obtain ⟨r210,hr211,h201⟩:=j4 h201
               show l7 Try.prog _ _ _ _
               refine cA ((aU6 N r208 a0.frames a1 r210 hr211).swl [(1022,544),(1016,4),(1019,1003),(1021,545),(21,546)] rfl) ?_
               obtain ⟨x212,hx213,h201⟩:=j4 h201
               refine A15 _ _ ?_
               refine I4.gh (Gh.attach (l':=List.map y7 (r210.set a1 (⟨x212.class_,x212.method,x212.fast,x212.code,x212.self_,x212.args,x204.temps,x212.stack,x212.at_⟩:l6))) 1003 544 547 a1 7 rfl rfl rfl (atD hx213) rfl rfl (aR7 rfl) rfl rfl rfl rfl rfl rfl) (fun _=>?_)
               refine I4.gh (Gh.reidD 1001 1 1002 548 549 rfl rfl rfl rfl rfl rfl rfl rfl rfl rfl rfl rfl) (fun _=>?_)
               exact jn ⟨_,sj h201⟩ [(186,548),(550,549),(544,547)]
              refine kp [(0,_),(1,_),(4,_),(5,_),(6,_),(12,_)] [(4,_),(5,_),(1000,_),(1001,_),(1002,_),(1003,_)] ?_
              refine j6 hn ?_
              obtain ⟨o223,h222,h201⟩:=j4 h201
              refine jk (ι:={ s // o223=D7.next s }) hn (fun s=>[]) (fun s=>[(186,.deep 2 97 [(1,(2,27))] (List.map H8 s.1.1) [] 553),(550,.gone),(553,.gone),(1000,.box [.ptr 1001 0,.fn Kl [.fp cl_0],.fn Kq [.fp cq_0,.fp cq_1],.int s.1.2.1,.int s.1.2.2.1,.int s.1.2.2.2.1,.own 1003,.int s.1.2.2.2.2.2.1,.int s.1.2.2.2.2.2.2.1,.int s.1.2.2.2.2.2.2.2] 123),(1001,.box [.sl 4 (List.map K7 a0.w.classes),.own 186,.int a0.w.epoch] 25),(1002,.gone),(1003,.deep 10 160 [(7,(2,27)),(8,(2,27))] (List.map y7 s.1.2.2.2.2.1) [] 550)]) [(0,_),(1,_)] [] (fun _ A16 _ R16=>?_) ?_
              ·refine l8 hn ?_
               refine l5 h222 (fun hb224 h222=>?_) (fun hb224 h222=>?_)
               ·obtain ⟨x225,hx226,h222⟩:=j4 h222
                refine j5.gh (Gh.detach 1003 550 551 a1 7 rfl rfl (atD hx226) rfl rfl rfl rfl rfl rfl rfl rfl) (fun _=>?_)
                refine kp [(0,_),(1,_),(4,_),(5,_)] [(4,_),(5,_),(550,_),(551,_),(1000,_),(1001,_),(1002,_),(1003,_)] ?_
                refine c94 4 12 hn (by kernel_rfl) ?_
                refine W9 hx226 rfl rfl (by decide) rfl ?_
                obtain ⟨x227,hx228,h222⟩:=j4 h222
                refine V6 hx228 ?_
                refine U3 (u6 hx228).2 ?_
                obtain ⟨r229,hr230,h222⟩:=j4 h222
                show l7 Try.prog _ _ _ _
                refine cA ((((bC9 N a0.frames a1 r229 hr230).sw 1005 551).sw 1006 550).sw 5 552) ?_
                obtain ⟨x231,hx232,h222⟩:=j4 h222
                refine And.intro ⟨rfl,⟨rfl,trivial⟩,W9 hx232 rfl rfl (by decide) rfl ⟨rfl,rfl,rfl,rfl⟩⟩ ?_
                obtain ⟨r233,hr234,h222⟩:=j4 h222
                show l7 Try.prog _ _ _ _
                refine cA ((aU7 N (⟨(⟨a0.w.classes,a0.w.heap,a0.w.epoch⟩:Wd),a0.fuel,a0.sends,a0.turns,r229.2,a0.back,a0.err⟩:l9) x227 a2.b r229.1 r233 hr234).sw 3 553) ?_
                refine A16 _ _ ?_
                refine I4.gh (Gh.attach (l':=List.map y7 (r229.2.set a1 (⟨x231.class_,x231.method,x231.fast,x231.code,x231.self_,x231.args,x225.temps,x231.stack,x231.at_⟩:l6))) 1003 550 554 a1 7 rfl rfl rfl (atD hx232) rfl rfl (aR7 rfl) rfl rfl rfl rfl rfl rfl) (fun _=>?_)
                refine I4.gh (Gh.reidD 1001 1 1002 555 556 rfl rfl rfl rfl rfl rfl rfl rfl rfl rfl rfl rfl) (fun _=>?_)
                exact jn ⟨_,sj h222⟩ [(186,555),(553,556),(550,554)]
               refine j6 hn ?_
               obtain ⟨o238,h237,h222⟩:=j4 h222
               refine jk (ι:={ s // o238=D7.next s }) hn (fun s=>[]) (fun s=>[(186,.deep 2 97 [(1,(2,27))] (List.map H8 s.1.1) [] 886),(560,.gone),(886,.gone),(1001,.box [.sl 4 (List.map K7 a0.w.classes),.own 186,.int a0.w.epoch] 25),(1002,.gone),(1003,.deep 10 160 [(7,(2,27)),(8,(2,27))] (List.map y7 s.1.2) [] 560)]) [(0,_),(1,_)] [(1000,_)] (fun _ A17 _ R17=>?_) ?_
               ·refine l8 hn ?_
                refine l5 h237 (fun hb239 h237=>?_) (fun hb239 h237=>?_)
                ·refine j5.seqQ fun _ A18 _ _=>?_
                 refine kp [(0,_),(1,_),(5,_),(6,_)] [(4,_),(5,_),(1000,_),(1001,_),(1002,_),(1003,_)] ?_
                 refine H7 hn (by kernel_rfl) ?_
                 obtain ⟨r240,hr241,h237⟩:=j4 h237
                 show l7 Try.prog _ _ _ _
                 refine cD (cD1 N (⟨a0.w.classes,a0.w.heap,a0.w.epoch⟩:Wd) a2.a r240 hr241) ?_
                 obtain ⟨r242,hr243,h237⟩:=j4 h237
                 show l7 Try.prog _ _ _ _
                 refine cDf (((cM9 N a0.w.heap a2.a r240 r242 hr243).sw 0 186).sw 1 886) ⟨dK7 _,trivial,trivial⟩ ?_
                 refine A18 _ _ ?_
                 refine j5.seqQ fun _ A19 _ R19=>?_
                 refine kp [(0,_),(1,_),(6,_),(7,_),(8,_),(9,_)] [(4,_),(8,_),(186,_),(886,_),(1000,_),(1001,_),(1002,_),(1003,_)] ?_
                 refine j6 hn ?_
                 refine l8 hn ?_
                 refine l5 h237 (fun hb244 h237=>?_) (fun hb244 h237=>?_)
                 ·refine j6 hn ?_
                  obtain ⟨r245,hr246,h237⟩:=j4 h237
                  show l7 Try.prog _ _ _ _
                  refine cA (J8 N (⟨(⟨a0.w.classes,a0.w.heap,a0.w.epoch⟩:Wd),a0.fuel,a0.sends,a0.turns,a0.frames,a0.back,a0.err⟩:l9) r242.2.2 r245 hr246) ?_
                  refine j5.gh (Gh.reidD 1001 1 1002 557 558 rfl rfl rfl rfl rfl rfl rfl rfl rfl rfl rfl rfl) (fun _=>?_)
                  refine j5.gh (Gh.resh 1003 559 rfl rfl rfl rfl) (fun _=>?_)
                  refine got hn ?_
                  refine R19 _ _ ?_
                  refine R17 _ _ ?_
                  refine R16 _ _ ?_
                  refine R15 _ _ ?_
                  refine R14 _ _ ?_
                  refine R13 _ _ ?_
                  refine R12 _ _ ?_
                  refine R11 _ _ ?_
                  refine R10 _ _ ?_
                  refine R7 _ _ ?_
                  refine R6 _ _ ?_
                  refine R5 _ _ ?_
                  refine R4 _ _ ?_
                  refine R3 _ _ ?_
                  refine R2 _ _ ?_
                  refine R1 _ _ ?_
                  refine R0 _ _ ?_
                  obtain rfl:=Option.some.inj h237
                  obtain rfl:=Option.some.inj h222
                  obtain rfl:=Option.some.inj h201
                  obtain rfl:=Option.some.inj h182
                  obtain rfl:=Option.some.inj h163
                  obtain rfl:=Option.some.inj h145
                  obtain rfl:=Option.some.inj h132
                  obtain rfl:=Option.some.inj h117
                  obtain rfl:=Option.some.inj h100
                  obtain rfl:=Option.some.inj h87
                  obtain rfl:=Option.some.inj h70
                  obtain rfl:=Option.some.inj h51
                  obtain rfl:=Option.some.inj h34
                  obtain rfl:=Option.some.inj h19
                  obtain rfl:=Option.some.inj h9
                  obtain rfl:=Option.some.inj h
                  exact ⟨[(2,557),(3,558),(5,559)],_,fm⟩
                 refine q8 hn ?_
                 refine A19 _ _ ?_
                 refine j6 hn ?_
                 refine q9 hn ?_
                 obtain ⟨r247,hr248,h237⟩:=j4 h237
                 show l7 Try.prog _ _ _ _
                 refine cA ((Q5 N r242.2.1 a0.frames a1 r247 hr248).swl [(1016,4),(1019,1003),(1021,1005),(21,560)] rfl) ?_
                 refine A17 _ _ ?_
                 refine I4.gh (Gh.drop 1002 rfl) (fun _=>?_)
                 exact jn ⟨_,sj h237⟩ []
                refine q8 hn ?_
                refine A17 _ _ ?_
                refine I4.gh (Gh.reidD 1001 1 1002 561 562 rfl rfl rfl rfl rfl rfl rfl rfl rfl rfl rfl rfl) (fun _=>?_)
                refine I4.gh (Gh.resh 1003 563 rfl rfl rfl rfl) (fun _=>?_)
                exact jn ⟨_,sj h237⟩ [(186,561),(886,562),(560,563)]
               rintro ⟨⟨v235,v236⟩,rfl⟩
               refine A16 _ _ ?_
               exact jn ⟨_,sj h222⟩ [(553,886),(550,560)]
              rintro ⟨⟨v214,v215,v216,v217,v218,v219,v220,v221⟩,rfl⟩
              refine A15 _ _ ?_
              exact jn ⟨_,sj h201⟩ [(550,553),(544,550)]
             rintro ⟨⟨v193,v194,v195,v196,v197,v198,v199,v200⟩,rfl⟩
             refine A14 _ _ ?_
             exact jn ⟨_,sj h182⟩ [(541,550),(540,544)]
            rintro ⟨⟨v174,v175,v176,v177,v178,v179,v180,v181⟩,rfl⟩
            refine A13 _ _ ?_
            exact jn ⟨_,sj h163⟩ [(538,541),(534,540)]
           rintro ⟨⟨v155,v156,v157,v158,v159,v160,v161,v162⟩,rfl⟩
           refine A12 _ _ ?_
           exact jn ⟨_,sj h145⟩ [(535,538),(528,534)]
          rintro ⟨⟨v137,v138,v139,v140,v141,v142,v143,v144⟩,rfl⟩
          refine A11 _ _ ?_
          exact jn ⟨_,sj h132⟩ [(533,535),(525,528)]
         rintro ⟨⟨v124,v125,v126,v127,v128,v129,v130,v131⟩,rfl⟩
         refine A10 _ _ ?_
         exact jn ⟨_,sj h117⟩ [(531,533),(522,525)]
        rintro ⟨⟨v109,v110,v111,v112,v113,v114,v115,v116⟩,rfl⟩
        refine A7 _ _ ?_
        exact jn ⟨_,sj h100⟩ [(529,531),(519,522)]
       rintro ⟨⟨v92,v93,v94,v95,v96,v97,v98,v99⟩,rfl⟩
       refine A6 _ _ ?_
       exact jn ⟨_,sj h87⟩ [(527,529),(516,519)]
      rintro ⟨⟨v79,v80,v81,v82,v83,v84,v85,v86⟩,rfl⟩
      refine A5 _ _ ?_
      exact jn ⟨_,sj h70⟩ [(525,527),(513,516)]
     rintro ⟨⟨v62,v63,v64,v65,v66,v67,v68,v69⟩,rfl⟩
     refine A4 _ _ ?_
     exact jn ⟨_,sj h51⟩ [(522,525),(507,513)]
    rintro ⟨⟨v43,v44,v45,v46,v47,v48,v49,v50⟩,rfl⟩
    refine A3 _ _ ?_
    exact jn ⟨_,sj h34⟩ [(520,522),(504,507)]
   rintro ⟨⟨v26,v27,v28,v29,v30,v31,v32,v33⟩,rfl⟩
   refine A2 _ _ ?_
   exact jn ⟨_,sj h19⟩ [(518,520),(501,504)]
  rintro ⟨⟨v11,v12,v13,v14,v15,v16,v17,v18⟩,rfl⟩
  refine A1 _ _ ?_
  refine A0 _ _ ?_
  exact jn ⟨_,sj h9⟩ []
 rintro ⟨⟨v1,v2,v3,v4,v5,v6,v7,v8⟩,rfl⟩
 refine I4.done ?_
 obtain rfl:=Option.some.inj h
 exact ⟨[(2,186),(3,518),(5,501)],_,fm⟩

/- (*run.machine).step -/
set_option maxRecDepth 100000 in
set_option maxHeartbeats 8000000 in
theorem bG9 (N:Nat) (a0:l9) (gl:St→Int→ByteArray→Option (Int×Int)) (gq:Int→Int→Option (Fs×Bool)) {Kl:Nat} {cl_0:List AV} (hgl:∀x0_ x1_ x2_ y_,gl x0_ x1_ x2_=some y_→Spec Try.prog Kl [] [.agg (eSt x0_),.int x1_,.str x2_,.fp cl_0] (.tup [.int y_.1,.int y_.2]) [] []) {Kq:Nat} {cq_0:List AV} {cq_1:List AV} (hgq:∀x0_ x1_ y_,gq x0_ x1_=some y_→Spec Try.prog Kq [] [.int x0_,.int x1_,.fp cq_0,.fp cq_1] (.tup [.agg (eFs y_.1),.bool y_.2]) [] []) (r:l9) (h:aK1 N a0 gl gq=some r):Spec Try.prog 62 [(1000,.box [.ptr 1001 0,.fn Kl [.fp cl_0],.fn Kq [.fp cq_0,.fp cq_1],.int a0.fuel,.int a0.sends,.int a0.turns,.own 1003,.int a0.back.k,.int a0.back.n,.int a0.err] 123),(1001,.box [.sl 4 (List.map K7 a0.w.classes),.own 1002,.int a0.w.epoch] 25),(1002,.deep 2 97 [(1,(2,27))] (List.map H8 a0.w.heap) [] 1004),(1003,.deep 10 160 [(7,(2,27)),(8,(2,27))] (List.map y7 a0.frames) [] 1005)] [.ptr 1000 0] (.tup []) [(1000,.box [.ptr 1001 0,.fn Kl [.fp cl_0],.fn Kq [.fp cq_0,.fp cq_1],.int r.fuel,.int r.sends,.int r.turns,.own 4,.int r.back.k,.int r.back.n,.int r.err] 123),(1001,.box [.sl 4 (List.map K7 r.w.classes),.own 2,.int r.w.epoch] 25),(2,.deep 2 97 [(1,(2,27))] (List.map H8 r.w.heap) [] 3),(3,.gone),(1002,.gone),(4,.deep 10 160 [(7,(2,27)),(8,(2,27))] (List.map y7 r.frames) [] 5),(5,.gone),(1003,.gone)] [3,2,5,4]:=by
 refine Spec.of D5 Try.func62 rfl Try.ntmps62 (by kernel_rfl) rfl rfl rfl fun Γ hn=>?_
 unfold aK1 at h
 refine j5.snoc ?_
 refine j5.seqQ fun _ A0 _ _=>?_
 refine H7 hn (by kernel_rfl) ?_
 refine u7 (fun _=>?_)
 refine Or.inr ?_
 obtain ⟨x2,hx3,h⟩:=j4 h
 refine ixD hx3 rfl rfl ?_
 refine A0 _ _ ?_
 refine j6 hn ?_
 refine U3 (u6 hx3).2 ?_
 refine kp [(0,_),(2,_),(3,_)] [(1000,_),(1001,_),(1002,_),(1003,_)] ?_
 refine j6 hn ?_
 refine U3 (u6 hx3).2 ?_
 obtain ⟨x4,hx5,h⟩:=j4 h
 refine I8 hx5 ?_
 refine j6 hn ?_
 refine U3 (u6 hx3).2 ?_
 refine Or.inr ?_
 refine stD (u6 hx3).2 rfl rfl rfl ?_
 refine Exists.intro (List.map y7 (a0.frames.set ((wr ((a0.frames.length:Int) - (1:Int))).toNat) (⟨x2.class_,x2.method,x2.fast,x2.code,x2.self_,x2.args,x2.temps,x2.stack,(wr (x2.at_+(1:Int)))⟩:l6))) (And.intro (aR7 rfl) ?_)
 refine kp [(0,_),(2,_),(3,_),(4,_)] [(4,_),(1000,_),(1001,_),(1002,_),(1003,_)] ?_
 refine j6 hn ?_
 obtain ⟨o17,h16,h⟩:=j4 h
 refine jk (ι:={ s // o17=s }) hn (fun s=>[]) (fun s=>[(501,.gone),(502,.deep 10 160 [(7,(2,27)),(8,(2,27))] (List.map y7 s.1.2.2.2.2.2.2.1) [] 501),(509,.gone),(510,.deep 2 97 [(1,(2,27))] (List.map H8 s.1.2.1) [] 509),(1000,.box [.ptr 1001 0,.fn Kl [.fp cl_0],.fn Kq [.fp cq_0,.fp cq_1],.int s.1.2.2.2.1,.int s.1.2.2.2.2.1,.int s.1.2.2.2.2.2.1,.own 502,.int s.1.2.2.2.2.2.2.2.1,.int s.1.2.2.2.2.2.2.2.2.1,.int s.1.2.2.2.2.2.2.2.2.2] 123),(1001,.box [.sl 4 (List.map K7 s.1.1),.own 510,.int s.1.2.2.1] 25),(1002,.gone),(1003,.gone)]) [(0,_)] [] (fun _ A1 _ _=>?_) ?_
 ·refine j5.blkQ fun _ A2 _ _ _=>?_
  refine j6 hn ?_
  obtain ⟨o29,h28,h16⟩:=j4 h16
  refine jk (ι:={ s // o29=s }) hn (fun s=>[]) (fun s=>[(501,.gone),(502,.deep 10 160 [(7,(2,27)),(8,(2,27))] (List.map y7 s.1.2.2.2.2.2.2.1) [] 501),(509,.gone),(510,.deep 2 97 [(1,(2,27))] (List.map H8 s.1.2.1) [] 509),(1000,.box [.ptr 1001 0,.fn Kl [.fp cl_0],.fn Kq [.fp cq_0,.fp cq_1],.int s.1.2.2.2.1,.int s.1.2.2.2.2.1,.int s.1.2.2.2.2.2.1,.own 502,.int s.1.2.2.2.2.2.2.2.1,.int s.1.2.2.2.2.2.2.2.2.1,.int s.1.2.2.2.2.2.2.2.2.2] 123),(1001,.box [.sl 4 (List.map K7 s.1.1),.own 510,.int s.1.2.2.1] 25),(1002,.gone),(1003,.gone)]) [(0,_)] [] (fun _ A3 _ _=>?_) ?_
  ·refine l8 hn ?_
   refine l5 h28 (fun hb30 h28=>?_) (fun hb30 h28=>?_)
   ·refine q9 hn ?_
    obtain ⟨r31,hr32,h28⟩:=j4 h28
    show l7 Try.prog _ _ _ _
    refine cA (((bI2 N (⟨(⟨a0.w.classes,a0.w.heap,a0.w.epoch⟩:Wd),a0.fuel,a0.sends,a0.turns,(a0.frames.set ((wr ((a0.frames.length:Int) - (1:Int))).toNat) (⟨x2.class_,x2.method,x2.fast,x2.code,x2.self_,x2.args,x2.temps,x2.stack,(wr (x2.at_+(1:Int)))⟩:l6)),a0.back,a0.err⟩:l9) gl gq ((wr ((a0.frames.length:Int) - (1:Int))).toNat) x4 x2.at_ hgl hgq r31 hr32).sw 5 501).sw 4 502) ?_
    refine A3 _ _ ?_
    refine I4.gh (Gh.reidD 1001 1 1002 503 504 rfl rfl rfl rfl rfl rfl rfl rfl rfl rfl rfl rfl) (fun _=>?_)
    exact jn ⟨_,sj h28⟩ [(510,503),(509,504)]
   refine j6 hn ?_
   obtain ⟨o44,h43,h28⟩:=j4 h28
   refine jk (ι:={ s // o44=s }) hn (fun s=>[]) (fun s=>[(88,.deep 10 160 [(7,(2,27)),(8,(2,27))] (List.map y7 s.1.2.2.2.2.2.2.1) [] 505),(505,.gone),(511,.gone),(512,.deep 2 97 [(1,(2,27))] (List.map H8 s.1.2.1) [] 511),(1000,.box [.ptr 1001 0,.fn Kl [.fp cl_0],.fn Kq [.fp cq_0,.fp cq_1],.int s.1.2.2.2.1,.int s.1.2.2.2.2.1,.int s.1.2.2.2.2.2.1,.own 88,.int s.1.2.2.2.2.2.2.2.1,.int s.1.2.2.2.2.2.2.2.2.1,.int s.1.2.2.2.2.2.2.2.2.2] 123),(1001,.box [.sl 4 (List.map K7 s.1.1),.own 512,.int s.1.2.2.1] 25),(1002,.gone),(1003,.gone)]) [(0,_)] [] (fun _ A4 _ _=>?_) ?_
   ·refine l8 hn ?_
    refine l5 h43 (fun hb45 h43=>?_) (fun hb45 h43=>?_)
    ·refine q9 hn ?_
     obtain ⟨r46,hr47,h43⟩:=j4 h43
     show l7 Try.prog _ _ _ _
     refine cA ((aS9 N (⟨(⟨a0.w.classes,a0.w.heap,a0.w.epoch⟩:Wd),a0.fuel,a0.sends,a0.turns,(a0.frames.set ((wr ((a0.frames.length:Int) - (1:Int))).toNat) (⟨x2.class_,x2.method,x2.fast,x2.code,x2.self_,x2.args,x2.temps,x2.stack,(wr (x2.at_+(1:Int)))⟩:l6)),a0.back,a0.err⟩:l9) ((wr ((a0.frames.length:Int) - (1:Int))).toNat) x4.a r46 hr47).sw 5 505) ?_
     refine A4 _ _ ?_
     refine I4.gh (Gh.reidD 1001 1 1002 506 507 rfl rfl rfl rfl rfl rfl rfl rfl rfl rfl rfl rfl) (fun _=>?_)
     refine I4.gh (Gh.reidD 1000 6 1003 508 509 rfl rfl rfl rfl rfl rfl rfl rfl rfl rfl rfl rfl) (fun _=>?_)
     exact jn ⟨_,sj h43⟩ [(512,506),(511,507),(88,508),(505,509)]
    refine j6 hn ?_
    obtain ⟨o59,h58,h43⟩:=j4 h43
    refine jk (ι:={ s // o59=s }) hn (fun s=>[]) (fun s=>[(88,.deep 10 160 [(7,(2,27)),(8,(2,27))] (List.map y7 s.1.2.2.2.2.2.2.1) [] 511),(511,.gone),(515,.gone),(516,.deep 2 97 [(1,(2,27))] (List.map H8 s.1.2.1) [] 515),(1000,.box [.ptr 1001 0,.fn Kl [.fp cl_0],.fn Kq [.fp cq_0,.fp cq_1],.int s.1.2.2.2.1,.int s.1.2.2.2.2.1,.int s.1.2.2.2.2.2.1,.own 88,.int s.1.2.2.2.2.2.2.2.1,.int s.1.2.2.2.2.2.2.2.2.1,.int s.1.2.2.2.2.2.2.2.2.2] 123),(1001,.box [.sl 4 (List.map K7 s.1.1),.own 516,.int s.1.2.2.1] 25),(1002,.gone),(1003,.gone)]) [(0,_)] [] (fun _ A5 _ _=>?_) ?_
    ·refine l8 hn ?_
     refine l5 h58 (fun hb60 h58=>?_) (fun hb60 h58=>?_)
     ·refine j6 hn ?_
      obtain ⟨r61,hr62,h58⟩:=j4 h58
      show l7 Try.prog _ _ _ _
      refine cA ((aP2 N (a0.frames.set ((wr ((a0.frames.length:Int) - (1:Int))).toNat) (⟨x2.class_,x2.method,x2.fast,x2.code,x2.self_,x2.args,x2.temps,x2.stack,(wr (x2.at_+(1:Int)))⟩:l6)) ((wr ((a0.frames.length:Int) - (1:Int))).toNat) r61 hr62).sw 5 510) ?_
      refine j6 hn ?_
      obtain ⟨o71,h70,h58⟩:=j4 h58
      refine jk (ι:={ s // o71=s }) hn (fun s=>[]) (fun s=>[(511,.gone),(1000,.box [.ptr 1001 0,.fn Kl [.fp cl_0],.fn Kq [.fp cq_0,.fp cq_1],.int s.1.1,.int s.1.2.1,.int s.1.2.2.1,.own 1003,.int s.1.2.2.2.2.1,.int s.1.2.2.2.2.2.1,.int s.1.2.2.2.2.2.2] 123),(1003,.deep 10 160 [(7,(2,27)),(8,(2,27))] (List.map y7 s.1.2.2.2.1) [] 511)]) [(0,_)] [(1001,_),(1002,_)] (fun _ A6 _ _=>?_) ?_
      ·refine j5.blkQ fun _ A7 _ _ _=>?_
       refine kp [(0,_),(2,_),(4,_),(61,_)] [(4,_),(510,_),(1000,_),(1001,_),(1002,_),(1003,_)] ?_
       refine j6 hn ?_
       obtain ⟨o80,h79,h70⟩:=j4 h70
       refine jk (ι:={ s // o80=s }) hn (fun s=>[]) (fun s=>[(511,.gone),(1000,.box [.ptr 1001 0,.fn Kl [.fp cl_0],.fn Kq [.fp cq_0,.fp cq_1],.int s.1.1,.int s.1.2.1,.int s.1.2.2.1,.own 1003,.int s.1.2.2.2.2.1,.int s.1.2.2.2.2.2.1,.int s.1.2.2.2.2.2.2] 123),(1003,.deep 10 160 [(7,(2,27)),(8,(2,27))] (List.map y7 s.1.2.2.2.1) [] 511)]) [(0,_)] [(1001,_),(1002,_)] (fun _ A8 _ _=>?_) ?_
       ·refine l8 hn ?_
        refine l5 h79 (fun hb81 h79=>?_) (fun hb81 h79=>?_)
        ·refine q9 hn ?_
         obtain ⟨r82,hr83,h79⟩:=j4 h79
         show l7 Try.prog _ _ _ _
         refine cA (((aS9 N (⟨(⟨a0.w.classes,a0.w.heap,a0.w.epoch⟩:Wd),a0.fuel,a0.sends,a0.turns,r61.2,a0.back,a0.err⟩:l9) ((wr ((a0.frames.length:Int) - (1:Int))).toNat) x4.a r82 hr83).sw 1005 510).sw 5 511) ?_
         refine A8 _ _ ?_
         exact jn ⟨_,sj h79⟩ []
        refine j6 hn ?_
        obtain ⟨o91,h90,h79⟩:=j4 h79
        refine jk (ι:={ s // o91=s }) hn (fun s=>[]) (fun s=>[(1000,.box [.ptr 1001 0,.fn Kl [.fp cl_0],.fn Kq [.fp cq_0,.fp cq_1],.int s.1.1,.int s.1.2.1,.int s.1.2.2.1,.own 1003,.int s.1.2.2.2.1,.int s.1.2.2.2.2.1,.int s.1.2.2.2.2.2] 123)]) [(0,_)] [(510,_),(1001,_),(1002,_),(1003,_)] (fun _ A9 _ _=>?_) ?_
        ·refine l8 hn ?_
         refine l5 h90 (fun hb92 h90=>?_) (fun hb92 h90=>?_)
         ·refine q8 hn ?_
          refine A9 _ _ ?_
          exact jn ⟨_,sj h90⟩ []
         refine q9 hn ?_
         obtain ⟨r93,hr94,h90⟩:=j4 h90
         show l7 Try.prog _ _ _ _
         refine cA (J8 N (⟨(⟨a0.w.classes,a0.w.heap,a0.w.epoch⟩:Wd),a0.fuel,a0.sends,a0.turns,r61.2,a0.back,a0.err⟩:l9) (11:Int) r93 hr94) ?_
         refine A9 _ _ ?_
         exact jn ⟨_,sj h90⟩ []
        rintro ⟨⟨v84,v85,v86,v87,v88,v89⟩,rfl⟩
        refine A8 _ _ ?_
        exact jn ⟨_,sj h79⟩ [(511,510)]
       rintro ⟨⟨v72,v73,v74,v75,v76,v77,v78⟩,rfl⟩
       refine A7 _ _ ?_
       refine A6 _ _ ?_
       exact jn ⟨_,sj h70⟩ []
      rintro ⟨⟨v63,v64,v65,v66,v67,v68,v69⟩,rfl⟩
      refine A5 _ _ ?_
      refine I4.gh (Gh.reidD 1001 1 1002 512 513 rfl rfl rfl rfl rfl rfl rfl rfl rfl rfl rfl rfl) (fun _=>?_)
      refine I4.gh (Gh.reidD 1000 6 1003 514 515 rfl rfl rfl rfl rfl rfl rfl rfl rfl rfl rfl rfl) (fun _=>?_)
      exact jn ⟨_,sj h58⟩ [(516,512),(515,513),(88,514),(511,515)]
     refine j6 hn ?_
     obtain ⟨o106,h105,h58⟩:=j4 h58
     refine jk (ι:={ s // o106=s }) hn (fun s=>[]) (fun s=>[(88,.deep 10 160 [(7,(2,27)),(8,(2,27))] (List.map y7 s.1.2.2.2.2.2.2.1) [] 517),(517,.gone),(519,.gone),(520,.deep 2 97 [(1,(2,27))] (List.map H8 s.1.2.1) [] 519),(1000,.box [.ptr 1001 0,.fn Kl [.fp cl_0],.fn Kq [.fp cq_0,.fp cq_1],.int s.1.2.2.2.1,.int s.1.2.2.2.2.1,.int s.1.2.2.2.2.2.1,.own 88,.int s.1.2.2.2.2.2.2.2.1,.int s.1.2.2.2.2.2.2.2.2.1,.int s.1.2.2.2.2.2.2.2.2.2] 123),(1001,.box [.sl 4 (List.map K7 s.1.1),.own 520,.int s.1.2.2.1] 25),(1002,.gone),(1003,.gone)]) [(0,_)] [] (fun _ A10 _ _=>?_) ?_
     ·refine l8 hn ?_
      refine l5 h105 (fun hb107 h105=>?_) (fun hb107 h105=>?_)
      ·refine j6 hn ?_
       obtain ⟨r108,hr109,h105⟩:=j4 h105
       show l7 Try.prog _ _ _ _
       refine cA ((aP2 N (a0.frames.set ((wr ((a0.frames.length:Int) - (1:Int))).toNat) (⟨x2.class_,x2.method,x2.fast,x2.code,x2.self_,x2.args,x2.temps,x2.stack,(wr (x2.at_+(1:Int)))⟩:l6)) ((wr ((a0.frames.length:Int) - (1:Int))).toNat) r108 hr109).sw 5 516) ?_
       refine j5.seqQ fun _ A11 _ _=>?_
       refine kp [(0,_),(6,_)] [(6,_),(516,_),(1000,_),(1001,_),(1002,_),(1003,_)] ?_
       refine H7 hn (by kernel_rfl) ?_
       refine u7 (fun _=>?_)
       refine Or.inr ?_
       obtain ⟨hg111,h105⟩:=C9 h105
       refine bK7 hg111 rfl rfl ?_
       refine A11 _ _ ?_
       refine q9 hn ?_
       obtain ⟨r112,hr113,h105⟩:=j4 h105
       show l7 Try.prog _ _ _ _
       refine cA ((((aS4 N (⟨(⟨a0.w.classes,a0.w.heap,a0.w.epoch⟩:Wd),a0.fuel,a0.sends,a0.turns,(r108.2.take (wr ((r108.2.length:Int) - (1:Int))).toNat),a0.back,a0.err⟩:l9) r108.1 r112 hr113).sw 1003 88).sw 1005 788).sw 5 517) ?_
       refine A10 _ _ ?_
       refine I4.gh (Gh.reidD 1001 1 1002 518 519 rfl rfl rfl rfl rfl rfl rfl rfl rfl rfl rfl rfl) (fun _=>?_)
       exact jn ⟨_,sj h105⟩ [(520,518)]
      refine j6 hn ?_
      obtain ⟨o125,h124,h105⟩:=j4 h105
      refine jk (ι:={ s // o125=s }) hn (fun s=>[]) (fun s=>[(520,.gone),(521,.gone),(522,.deep 2 97 [(1,(2,27))] (List.map H8 s.1.2.1) [] 521),(1000,.box [.ptr 1001 0,.fn Kl [.fp cl_0],.fn Kq [.fp cq_0,.fp cq_1],.int s.1.2.2.2.1,.int s.1.2.2.2.2.1,.int s.1.2.2.2.2.2.1,.own 1003,.int s.1.2.2.2.2.2.2.2.1,.int s.1.2.2.2.2.2.2.2.2.1,.int s.1.2.2.2.2.2.2.2.2.2] 123),(1001,.box [.sl 4 (List.map K7 s.1.1),.own 522,.int s.1.2.2.1] 25),(1002,.gone),(1003,.deep 10 160 [(7,(2,27)),(8,(2,27))] (List.map y7 s.1.2.2.2.2.2.2.1) [] 520)]) [(0,_)] [] (fun _ A12 _ _=>?_) ?_
      ·refine l8 hn ?_
       refine l5 h124 (fun hb126 h124=>?_) (fun hb126 h124=>?_)
       ·refine q9 hn ?_
        obtain ⟨r127,hr128,h124⟩:=j4 h124
        show l7 Try.prog _ _ _ _
        refine cA ((bE7 N (⟨(⟨a0.w.classes,a0.w.heap,a0.w.epoch⟩:Wd),a0.fuel,a0.sends,a0.turns,(a0.frames.set ((wr ((a0.frames.length:Int) - (1:Int))).toNat) (⟨x2.class_,x2.method,x2.fast,x2.code,x2.self_,x2.args,x2.temps,x2.stack,(wr (x2.at_+(1:Int)))⟩:l6)),a0.back,a0.err⟩:l9) ((wr ((a0.frames.length:Int) - (1:Int))).toNat) x4 r127 hr128).sw 5 520) ?_
        refine A12 _ _ ?_
        refine I4.gh (Gh.reidD 1001 1 1002 521 522 rfl rfl rfl rfl rfl rfl rfl rfl rfl rfl rfl rfl) (fun _=>?_)
        exact jn ⟨_,sj h124⟩ [(522,521),(521,522)]
       refine j6 hn ?_
       obtain ⟨o140,h139,h124⟩:=j4 h124
       refine jk (ι:={ s // o140=s }) hn (fun s=>[]) (fun s=>[(523,.gone),(524,.deep 2 97 [(1,(2,27))] (List.map H8 s.1.2.1) [] 523),(525,.gone),(1000,.box [.ptr 1001 0,.fn Kl [.fp cl_0],.fn Kq [.fp cq_0,.fp cq_1],.int s.1.2.2.2.1,.int s.1.2.2.2.2.1,.int s.1.2.2.2.2.2.1,.own 1003,.int s.1.2.2.2.2.2.2.2.1,.int s.1.2.2.2.2.2.2.2.2.1,.int s.1.2.2.2.2.2.2.2.2.2] 123),(1001,.box [.sl 4 (List.map K7 s.1.1),.own 524,.int s.1.2.2.1] 25),(1002,.gone),(1003,.deep 10 160 [(7,(2,27)),(8,(2,27))] (List.map y7 s.1.2.2.2.2.2.2.1) [] 525)]) [(0,_)] [] (fun _ A13 _ _=>?_) ?_
       ·refine l8 hn ?_
        refine l5 h139 (fun hb141 h139=>?_) (fun hb141 h139=>?_)
        ·refine kp [(0,_)] [(1000,_),(1001,_),(1002,_),(1003,_)] ?_
         refine q9 hn ?_
         obtain ⟨r142,hr143,h139⟩:=j4 h139
         show l7 Try.prog _ _ _ _
         refine cA (aH8 N (⟨(⟨a0.w.classes,a0.w.heap,a0.w.epoch⟩:Wd),a0.fuel,a0.sends,a0.turns,(a0.frames.set ((wr ((a0.frames.length:Int) - (1:Int))).toNat) (⟨x2.class_,x2.method,x2.fast,x2.code,x2.self_,x2.args,x2.temps,x2.stack,(wr (x2.at_+(1:Int)))⟩:l6)),a0.back,a0.err⟩:l9) true r142 hr143) ?_
         refine A13 _ _ ?_
         refine I4.gh (Gh.reidD 1001 1 1002 523 524 rfl rfl rfl rfl rfl rfl rfl rfl rfl rfl rfl rfl) (fun _=>?_)
         refine I4.gh (Gh.resh 1003 525 rfl rfl rfl rfl) (fun _=>?_)
         exact jn ⟨_,sj h139⟩ [(524,523),(523,524)]
        refine kp [(0,_),(2,_),(4,_)] [(4,_),(1000,_),(1001,_),(1002,_),(1003,_)] ?_
        refine q9 hn ?_
        obtain ⟨r144,hr145,h139⟩:=j4 h139
        show l7 Try.prog _ _ _ _
        refine cA ((((bG8 N (⟨(⟨a0.w.classes,a0.w.heap,a0.w.epoch⟩:Wd),a0.fuel,a0.sends,a0.turns,(a0.frames.set ((wr ((a0.frames.length:Int) - (1:Int))).toNat) (⟨x2.class_,x2.method,x2.fast,x2.code,x2.self_,x2.args,x2.temps,x2.stack,(wr (x2.at_+(1:Int)))⟩:l6)),a0.back,a0.err⟩:l9) ((wr ((a0.frames.length:Int) - (1:Int))).toNat) x4 r144 hr145).sw 3 526).sw 2 527).sw 5 528) ?_
        refine A13 _ _ ?_
        exact jn ⟨_,sj h139⟩ [(524,527),(523,526),(525,528)]
       rintro ⟨⟨v129,v130,v131,v132,v133,v134,v135,v136,v137,v138⟩,rfl⟩
       refine A12 _ _ ?_
       exact jn ⟨_,sj h124⟩ [(522,524),(521,523),(520,525)]
      rintro ⟨⟨v114,v115,v116,v117,v118,v119,v120,v121,v122,v123⟩,rfl⟩
      refine A10 _ _ ?_
      refine I4.gh (Gh.reidD 1000 6 1003 529 530 rfl rfl rfl rfl rfl rfl rfl rfl rfl rfl rfl rfl) (fun _=>?_)
      exact jn ⟨_,sj h105⟩ [(520,522),(519,521),(88,529),(517,530)]
     rintro ⟨⟨v95,v96,v97,v98,v99,v100,v101,v102,v103,v104⟩,rfl⟩
     refine A5 _ _ ?_
     exact jn ⟨_,sj h58⟩ [(516,520),(515,519),(511,517)]
    rintro ⟨⟨v48,v49,v50,v51,v52,v53,v54,v55,v56,v57⟩,rfl⟩
    refine A4 _ _ ?_
    exact jn ⟨_,sj h43⟩ [(512,516),(511,515),(505,511)]
   rintro ⟨⟨v33,v34,v35,v36,v37,v38,v39,v40,v41,v42⟩,rfl⟩
   refine A3 _ _ ?_
   exact jn ⟨_,sj h28⟩ [(510,512),(509,511),(502,88),(501,505)]
  rintro ⟨⟨v18,v19,v20,v21,v22,v23,v24,v25,v26,v27⟩,rfl⟩
  refine A2 _ _ ?_
  refine A1 _ _ ?_
  exact jn ⟨_,sj h16⟩ []
 rintro ⟨⟨v6,v7,v8,v9,v10,v11,v12,v13,v14,v15⟩,rfl⟩
 refine I4.done ?_
 obtain rfl:=Option.some.inj h
 exact ⟨[(2,510),(3,509),(4,502),(5,501)],_,fm⟩

/- run.With -/
set_option maxRecDepth 100000 in
set_option maxHeartbeats 8000000 in
theorem b60 (N:Nat) (a0:Wd) (a1:O6) (a2:Int) (g3:St→Int→ByteArray→Option (Int×Int)) (g4:Int→Int→Option (Fs×Bool)) {K3:Nat} {c3_0:List AV} (hg3:∀x0_ x1_ x2_ y_,g3 x0_ x1_ x2_=some y_→Spec Try.prog K3 [] [.agg (eSt x0_),.int x1_,.str x2_,.fp c3_0] (.tup [.int y_.1,.int y_.2]) [] []) {K4:Nat} {c4_0:List AV} {c4_1:List AV} (hg4:∀x0_ x1_ y_,g4 x0_ x1_=some y_→Spec Try.prog K4 [] [.int x0_,.int x1_,.fp c4_0,.fp c4_1] (.tup [.agg (eFs y_.1),.bool y_.2]) [] []) (r:(Wd×aL3)) (h:aP7 N a0 a1 a2 g3 g4=some r):Spec Try.prog 25 [] [.agg (P5 a0),.agg (bH6 a1),.int a2,.fn K3 [.fp c3_0],.fn K4 [.fp c4_0,.fp c4_1]] (.tup [.agg (P5 r.1),.agg (bE9 r.2)]) [] []:=by
 refine Spec.of D5 Try.func25 rfl Try.ntmps25 (by kernel_rfl) rfl rfl rfl fun Γ hn=>?_
 unfold aP7 at h
 refine j6 hn ?_
 refine j5.seqQ fun _ A0 _ R0=>?_
 refine j6 hn ?_
 obtain ⟨r1,hr2,h⟩:=j4 h
 show l7 Try.prog _ _ _ _
 refine cA (cN5 N a0 a1 a2 r1 hr2) ?_
 refine j6 hn ?_
 refine l8 hn ?_
 refine l5 h (fun hb3 h=>?_) (fun hb3 h=>?_)
 ·refine j6 hn ?_
  obtain ⟨r4,hr5,h⟩:=j4 h
  show l7 Try.prog _ _ _ _
  refine cA (((bG6 N a0 r4 hr5).sw 0 24).sw 1 724) ?_
  refine j5.fzAllD 24 rfl ?_
  refine got hn ?_
  refine R0 _ _ ?_
  obtain rfl:=Option.some.inj h
  exact ⟨[],_,fm⟩
 refine q8 hn ?_
 refine A0 _ _ ?_
 refine j6 hn ?_
 obtain ⟨r6,hr7,h⟩:=j4 h
 show l7 Try.prog _ _ _ _
 refine cA (((bG6 N a0 r6 hr7).sw 0 28).sw 1 728) ?_
 refine kp [(2,_),(3,_),(4,_),(5,_),(6,_),(10,_),(11,_),(13,_)] [(5,_),(6,_),(10,_),(11,_),(13,_),(28,_),(728,_)] ?_
 refine j6 hn ?_
 refine j5.seqQ fun _ A1 _ _=>?_
 refine j5.seqQ fun _ A2 _ _=>?_
 refine H7 hn (by kernel_rfl) ?_
 obtain ⟨r8,hr9,h⟩:=j4 h
 show l7 Try.prog _ _ _ _
 refine cD (a15 N r6.heap a1.self_ r8 hr9) ?_
 obtain ⟨r10,hr11,h⟩:=j4 h
 show l7 Try.prog _ _ _ _
 refine cD (aW7 N (⟨r6.classes,r6.heap,r6.epoch⟩:Wd) r8 a1.name r10 hr11) ?_
 refine A2 _ _ ?_
 refine kp [(5,_),(6,_),(10,_),(11,_),(13,_),(14,_),(15,_),(16,_)] [(5,_),(6,_),(10,_),(11,_),(13,_),(28,_),(33,_),(728,_)] ?_
 refine j6 hn ?_
 refine j5.nilrowB 33 6 501 10 160 rfl rfl rfl rfl rfl rfl ?_
 refine j5.gh (Gh.toDeep 501 502 [(7,(2,27)),(8,(2,27))] rfl rfl rfl rfl) (fun _=>?_)
 obtain ⟨o20,h19,h⟩:=j4 h
 refine jk (ι:={ s // o20=s }) hn (fun s=>[]) (fun s=>[(33,.box [.ptr 13 0,.fn K3 [.fp c3_0],.fn K4 [.fp c4_0,.fp c4_1],.int s.1.1,.int s.1.2.1,.int s.1.2.2.1,.own 501,.int s.1.2.2.2.2.1,.int s.1.2.2.2.2.2.1,.int s.1.2.2.2.2.2.2] 123),(501,.deep 10 160 [(7,(2,27)),(8,(2,27))] (List.map y7 s.1.2.2.2.1) [] 502)]) [(5,_),(10,_),(11,_),(13,_),(14,_)] [(5,_),(10,_),(11,_),(13,_),(28,_),(502,_),(728,_)] (fun _ A3 _ _=>?_) ?_
 ·refine l8 hn ?_
  refine l5 h19 (fun hb21 h19=>?_) (fun hb21 h19=>?_)
  ·refine q9 hn ?_
   obtain ⟨r22,hr23,h19⟩:=j4 h19
   show l7 Try.prog _ _ _ _
   refine cA ((((J8 N (⟨(⟨r6.classes,r6.heap,r6.epoch⟩:Wd),a2,(0:Int),(0:Int),([]:List l6),(⟨(0:Int),(0:Int)⟩:V),(0:Int)⟩:l9) (10:Int) r22 hr23).sw 1000 33).sw 1001 13).sw 1003 501) ?_
   refine A3 _ _ ?_
   exact jn ⟨_,sj h19⟩ []
  refine q9 hn ?_
  obtain ⟨r24,hr25,h19⟩:=j4 h19
  show l7 Try.prog _ _ _ _
  refine cA ((aR8 N (⟨(⟨r6.classes,r6.heap,r6.epoch⟩:Wd),a2,(0:Int),(0:Int),([]:List l6),(⟨(0:Int),(0:Int)⟩:V),(0:Int)⟩:l9) g4 r10.1 r10.2 a1.self_ a1.args hg4 r24 hr25).swl [(1000,33),(1001,13),(1003,501),(1002,28),(1005,502),(5,503),(4,504)] rfl) ?_
  refine A3 _ _ ?_
  exact jn ⟨_,sj h19⟩ [(501,504),(502,503)]
 rintro ⟨⟨v12,v13,v14,v15,v16,v17,v18⟩,rfl⟩
 refine A1 _ _ ?_
 refine j5.seqQ fun _ A4 _ _=>?_
 obtain ⟨o57,h58,h⟩:=j4 h
 refine jk (ι:={ s // o57=s }) hn (fun s=>[]) (fun s=>[(13,.box [.sl 4 (List.map K7 s.1.1),.own 28,.int s.1.2.2.1] 25),(28,.deep 2 97 [(1,(2,27))] (List.map H8 s.1.2.1) [] 728),(33,.box [.ptr 13 0,.fn K3 [.fp c3_0],.fn K4 [.fp c4_0,.fp c4_1],.int s.1.2.2.2.1,.int s.1.2.2.2.2.1,.int s.1.2.2.2.2.2.1,.own 501,.int s.1.2.2.2.2.2.2.2.1,.int s.1.2.2.2.2.2.2.2.2.1,.int s.1.2.2.2.2.2.2.2.2.2] 123),(501,.deep 10 160 [(7,(2,27)),(8,(2,27))] (List.map y7 s.1.2.2.2.2.2.2.1) [] 502)]) [(5,_),(10,_),(11,_),(13,_),(14,_)] [(5,_),(10,_),(11,_),(502,_),(728,_)] (fun _ A5 _ _=>?_) ?_
 ·refine j5.blkQ fun _ _ E6 _ _=>?_
  refine lq (ι:={ q:(Nat×(List Cl)×(List Ob)×Int×Int×Int×Int×(List l6)×Int×Int×Int) // aI5 N g3 g4 q.1 q.2.1 q.2.2.1 q.2.2.2.1 q.2.2.2.2.1 q.2.2.2.2.2.1 q.2.2.2.2.2.2.1 q.2.2.2.2.2.2.2.1 q.2.2.2.2.2.2.2.2.1 q.2.2.2.2.2.2.2.2.2.1 q.2.2.2.2.2.2.2.2.2.2=some o57 }) hn (fun q=>[]) (fun q=>[(13,.box [.sl 4 (List.map K7 q.1.2.1),.own 28,.int q.1.2.2.2.1] 25),(28,.deep 2 97 [(1,(2,27))] (List.map H8 q.1.2.2.1) [] 728),(33,.box [.ptr 13 0,.fn K3 [.fp c3_0],.fn K4 [.fp c4_0,.fp c4_1],.int q.1.2.2.2.2.1,.int q.1.2.2.2.2.2.1,.int q.1.2.2.2.2.2.2.1,.own 501,.int q.1.2.2.2.2.2.2.2.2.1,.int q.1.2.2.2.2.2.2.2.2.2.1,.int q.1.2.2.2.2.2.2.2.2.2.2] 123),(501,.deep 10 160 [(7,(2,27)),(8,(2,27))] (List.map y7 q.1.2.2.2.2.2.2.2.1) [] 502)]) (fun q=>q.1.1) [(5,_),(10,_),(11,_),(13,_),(14,_)] [(5,_),(10,_),(11,_),(502,_),(728,_)] ⟨(N,r6.classes,r6.heap,r6.epoch,v12,v13,v14,v15,v16,v17,v18),h58⟩ [] ?_
  rintro ⟨⟨n_,v27,v28,v29,v30,v31,v32,v33,v34,v35,v36⟩,h58⟩ _ A7 X7 _
  rcases n_ with _|n61
  ·rw [aI5.eq_1] at h58
   cases h58
  ·replace h58:=(aI5.eq_2 _ _ _ _ _ _ _ _ _ _ _ _ _ _).symm.trans h58
   refine j5.seqQ fun _ A8 X8 _=>?_
   refine j5.seqQ fun _ A9 _ _=>?_
   obtain ⟨o64,h63,h58⟩:=j4 h58
   refine jk (ι:={ s // o64=s }) hn (fun s=>[(70,.bool s.1)]) (fun s=>[]) [(5,_),(10,_),(11,_),(13,_),(14,_)] [(5,_),(10,_),(11,_),(13,_),(28,_),(33,_),(501,_),(502,_),(728,_)] (fun _ A10 _ _=>?_) ?_
   ·refine q9 hn ?_
    refine l5 h63 (fun hb65 h63=>?_) (fun hb65 h63=>?_)
    ·refine j3 hb65 ?_
     refine j3 hb65 ?_
     refine j3 hb65 ?_
     refine j3 hb65 ?_
     refine u7 (fun _=>?_)
     refine j3 hb65 ?_
     refine j3 hb65 ?_
     refine A10 _ _ ?_
     exact jn ⟨_,sj h63⟩ []
    refine d9 hb65 ?_
    refine d9 hb65 ?_
    refine d9 hb65 ?_
    refine d9 hb65 ?_
    refine d9 hb65 ?_
    refine d9 hb65 ?_
    refine A10 _ _ ?_
    exact jn ⟨_,sj h63⟩ []
   rintro ⟨v62,hv_⟩
   replace hv_:=hv_.symm
   subst hv_
   refine A9 _ _ ?_
   refine l8 hn ?_
   refine l5 h58 (fun hb67 h58=>?_) (fun hb67 h58=>?_)
   ·refine q8 hn ?_
    refine A8 _ _ ?_
    refine j5.blkQ fun _ A11 _ _ _=>?_
    refine q9 hn ?_
    obtain ⟨r68,hr69,h58⟩:=j4 h58
    show l7 Try.prog _ _ _ _
    refine cA ((bG9 N (⟨(⟨v27,v28,v29⟩:Wd),v30,v31,v32,v33,(⟨v34,v35⟩:V),v36⟩:l9) g3 g4 hg3 hg4 r68 hr69).swl [(1000,33),(1001,13),(1003,501),(1002,28),(1004,728),(1005,502),(3,505),(2,506),(5,507),(4,508)] rfl) ?_
    refine A11 _ _ ?_
    refine A7 _ _ ?_
    exact jn ⟨(n61,r68.w.classes,r68.w.heap,r68.w.epoch,r68.fuel,r68.sends,r68.turns,r68.frames,r68.back.k,r68.back.n,r68.err),h58⟩ [(28,506),(728,505),(501,508),(502,507)] (by show n61 < n61+1; omega)
   refine K8 hn ?_
   refine X8 _ _ _ ?_
   refine X7 _ _ _ ?_
   refine E6 _ _ ?_
   refine A5 _ _ ?_
   exact jn ⟨_,sj h58⟩ []
 rintro ⟨⟨v47,v48,v49,v50,v51,v52,v53,v54,v55,v56⟩,rfl⟩
 refine A4 _ _ ?_
 refine j5.seqQ fun _ A12 _ R12=>?_
 refine j6 hn ?_
 refine l8 hn ?_
 refine l5 h (fun hb70 h=>?_) (fun hb70 h=>?_)
 ·refine j5.seqQ fun _ A13 _ _=>?_
  refine H7 hn (by kernel_rfl) ?_
  obtain ⟨r71,hr72,h⟩:=j4 h
  show l7 Try.prog _ _ _ _
  refine cA (((bG6 N a0 r71 hr72).sw 0 79).sw 1 779) ?_
  refine A13 _ _ ?_
  refine j5.fzAllD 79 rfl ?_
  refine got hn ?_
  refine R12 _ _ ?_
  obtain rfl:=Option.some.inj h
  exact ⟨[],_,fm⟩
 refine q8 hn ?_
 refine A12 _ _ ?_
 refine j5.seqQ fun _ A14 _ _=>?_
 refine H7 hn (by kernel_rfl) ?_
 refine A14 _ _ ?_
 refine j5.fzAllD 28 rfl ?_
 refine got hn ?_
 obtain rfl:=Option.some.inj h
 exact ⟨[],_,fm⟩

/- tally.Most -/
set_option maxRecDepth 100000 in
set_option maxHeartbeats 8000000 in
theorem cH4 (N:Nat) (a0:(List Tl)) (a1:St) (r:(Int×Int)) (h:a02 N a0 a1=some r):Spec Try.prog 125 [] [.sl 4 (List.map eTl a0),.agg (eSt a1)] (.tup [.int r.1,.int r.2]) [] []:=by
 refine Spec.of D5 Try.func125 rfl Try.ntmps125 (by kernel_rfl) rfl rfl rfl fun Γ hn=>?_
 unfold a02 at h
 refine j6 hn ?_
 refine j6 hn ?_
 refine j5.seqQ fun _ A0 _ _=>?_
 refine j6 hn ?_
 refine u7 (fun hl1=>?_)
 obtain ⟨o9,h10,h⟩:=j4 h
 refine jk (ι:={ s // o9=s }) hn (fun s=>[(6,.int s.1.1),(7,.int s.1.2)]) (fun s=>[]) [] [] (fun _ A1 _ _=>?_) ?_
 ·refine j5.blkQ fun _ _ E2 _ _=>?_
  refine lq (ι:={ q:((List Tl)×Nat×Int×Int) // q.1=a0.drop q.2.1∧aG6 N a1 q.1 q.2.1 q.2.2.1 q.2.2.2=some o9 }) hn (fun q=>[(6,.int q.1.2.2.1),(7,.int q.1.2.2.2),(14,.int (q.1.2.1:Int))]) (fun q=>[]) (fun q=>q.1.1.length) [(3,_),(12,_),(13,_)] [(3,_)] ⟨(a0,0,(-1:Int),(0:Int)),rfl,h10⟩ [] ?_
  rintro ⟨⟨rest_,k2,v3,v4⟩,hd12,h10⟩ _ A3 X3 _
  replace hd12:rest_=a0.drop k2:=hd12
  rcases rest_ with _|⟨x14,rest11⟩
  ·have hlt16:=H5 hd12
   replace h10:=(aG6.eq_1 _ _ _ _ _).symm.trans h10
   refine j6 hn ?_
   refine j5.seqQ fun _ _ X4 _=>?_
   refine l8 hn ?_
   refine d9 hlt16 ?_
   refine K8 hn ?_
   refine X4 _ _ _ ?_
   refine X3 _ _ _ ?_
   refine E2 _ _ ?_
   refine A1 _ _ ?_
   exact jn ⟨_,sj h10⟩ []
  ·obtain ⟨hx15,hd2,hlt16⟩:=F3 hd12
   replace h10:=(aG6.eq_2 _ _ _ _ _ _ _).symm.trans h10
   refine j6 hn ?_
   refine j5.seqQ fun _ A5 _ _=>?_
   refine l8 hn ?_
   refine j3 hlt16 ?_
   refine q8 hn ?_
   refine A5 _ _ ?_
   refine j5.seqQ fun _ A6 _ _=>?_
   obtain ⟨o20,h19,h10⟩:=j4 h10
   refine jk (ι:={ s // o20=s }) hn (fun s=>[(6,.int s.1.1),(7,.int s.1.2)]) (fun s=>[]) [(3,_),(12,_),(13,_),(14,_)] [(3,_)] (fun _ A7 _ _=>?_) ?_
   ·refine j5.blkQ fun _ A8 E8 _ _=>?_
    refine j6 hn ?_
    refine Z4 hx15 ?_
    refine j5.seqQ fun _ A9 X9 _=>?_
    refine j6 hn ?_
    refine l8 hn ?_
    refine l5 h19 (fun hb21 h19=>?_) (fun hb21 h19=>?_)
    ·refine K8 hn ?_
     refine X9 _ _ _ ?_
     refine E8 _ _ ?_
     refine A7 _ _ ?_
     exact jn ⟨_,sj h19⟩ []
    refine q8 hn ?_
    refine A9 _ _ ?_
    refine j6 hn ?_
    refine u7 (fun hl22=>?_)
    obtain ⟨o30,h31,h19⟩:=j4 h19
    refine jk (ι:={ s // o30=s }) hn (fun s=>[(6,.int s.1.1),(7,.int s.1.2)]) (fun s=>[]) [(3,_),(12,_),(13,_),(14,_)] [(3,_)] (fun _ A10 _ _=>?_) ?_
    ·refine j5.blkQ fun _ _ E11 _ _=>?_
     refine lq (ι:={ q:((List Ln)×Nat×Int×Int) // q.1=x14.classes.drop q.2.1∧aG4 N q.1 q.2.1 q.2.2.1 q.2.2.2=some o30 }) hn (fun q=>[(6,.int q.1.2.2.1),(7,.int q.1.2.2.2),(25,.int (q.1.2.1:Int))]) (fun q=>[]) (fun q=>q.1.1.length) [(3,_),(12,_),(13,_),(14,_),(23,_),(24,_)] [(3,_)] ⟨(x14.classes,0,v3,v4),rfl,h31⟩ [] ?_
     rintro ⟨⟨rest_,k23,v24,v25⟩,hd33,h31⟩ _ A12 X12 _
     replace hd33:rest_=x14.classes.drop k23:=hd33
     rcases rest_ with _|⟨x35,rest32⟩
     ·have hlt37:=H5 hd33
      replace h31:=(aG4.eq_1 _ _ _ _).symm.trans h31
      refine j6 hn ?_
      refine j5.seqQ fun _ _ X13 _=>?_
      refine l8 hn ?_
      refine d9 hlt37 ?_
      refine K8 hn ?_
      refine X13 _ _ _ ?_
      refine X12 _ _ _ ?_
      refine E11 _ _ ?_
      refine A10 _ _ ?_
      exact jn ⟨_,sj h31⟩ []
     ·obtain ⟨hx36,hd2,hlt37⟩:=F3 hd33
      replace h31:=(aG4.eq_2 _ _ _ _ _ _).symm.trans h31
      refine j6 hn ?_
      refine j5.seqQ fun _ A14 _ _=>?_
      refine l8 hn ?_
      refine j3 hlt37 ?_
      refine q8 hn ?_
      refine A14 _ _ ?_
      refine j5.seqQ fun _ A15 _ _=>?_
      obtain ⟨o41,h40,h31⟩:=j4 h31
      refine jk (ι:={ s // o41=s }) hn (fun s=>[(6,.int s.1.1),(7,.int s.1.2)]) (fun s=>[]) [(3,_),(12,_),(13,_),(14,_),(23,_),(24,_),(25,_)] [(3,_)] (fun _ A16 _ _=>?_) ?_
      ·refine j5.blkQ fun _ A17 _ _ _=>?_
       refine j6 hn ?_
       refine Z4 hx36 ?_
       refine j5.seqQ fun _ A18 _ _=>?_
       obtain ⟨o44,h43,h40⟩:=j4 h40
       refine jk (ι:={ s // o44=s }) hn (fun s=>[(48,.bool s.1)]) (fun s=>[]) [(3,_),(6,_),(7,_),(11,_),(12,_),(13,_),(14,_),(23,_),(24,_),(25,_)] [(3,_),(11,_)] (fun _ A19 _ _=>?_) ?_
       ·refine q9 hn ?_
        refine l5 h43 (fun hb45 h43=>?_) (fun hb45 h43=>?_)
        ·refine j3 hb45 ?_
         refine j3 hb45 ?_
         refine j3 hb45 ?_
         refine j3 hb45 ?_
         refine j3 hb45 ?_
         refine j3 hb45 ?_
         refine j3 hb45 ?_
         refine j3 hb45 ?_
         refine A19 _ _ ?_
         exact jn ⟨_,sj h43⟩ []
        refine d9 hb45 ?_
        refine d9 hb45 ?_
        refine d9 hb45 ?_
        refine d9 hb45 ?_
        refine l5 h43 (fun hb46 h43=>?_) (fun hb46 h43=>?_)
        ·refine j3 hb46 ?_
         refine d9 hb45 ?_
         refine j3 hb46 ?_
         refine d9 hb45 ?_
         refine l5 h43 (fun hb47 h43=>?_) (fun hb47 h43=>?_)
         ·refine j3 hb47 ?_
          refine j3 hb47 ?_
          refine j3 hb47 ?_
          refine d9 hb45 ?_
          refine j3 hb47 ?_
          refine d9 hb45 ?_
          refine A19 _ _ ?_
          exact jn ⟨_,sj h43⟩ []
         refine d9 hb47 ?_
         refine d9 hb47 ?_
         refine d9 hb47 ?_
         refine d9 hb45 ?_
         refine d9 hb47 ?_
         refine d9 hb45 ?_
         refine A19 _ _ ?_
         exact jn ⟨_,sj h43⟩ []
        refine d9 hb46 ?_
        refine d9 hb45 ?_
        refine d9 hb46 ?_
        refine d9 hb45 ?_
        refine d9 hb45 ?_
        refine d9 hb45 ?_
        refine A19 _ _ ?_
        exact jn ⟨_,sj h43⟩ []
       rintro ⟨v42,hv_⟩
       replace hv_:=hv_.symm
       subst hv_
       refine A18 _ _ ?_
       obtain ⟨o51,h50,h40⟩:=j4 h40
       refine jk (ι:={ s // o51=s }) hn (fun s=>[(6,.int s.1.1),(7,.int s.1.2)]) (fun s=>[]) [(3,_),(12,_),(13,_),(14,_),(23,_),(24,_),(25,_)] [(3,_)] (fun _ A20 _ _=>?_) ?_
       ·refine l8 hn ?_
        refine l5 h50 (fun hb52 h50=>?_) (fun hb52 h50=>?_)
        ·refine H7 hn (by kernel_rfl) ?_
         refine A20 _ _ ?_
         exact jn ⟨_,sj h50⟩ []
        refine q8 hn ?_
        refine A20 _ _ ?_
        exact jn ⟨_,sj h50⟩ []
       rintro ⟨⟨v48,v49⟩,rfl⟩
       refine A17 _ _ ?_
       refine A16 _ _ ?_
       exact jn ⟨_,sj h40⟩ []
      rintro ⟨⟨v38,v39⟩,rfl⟩
      refine A15 _ _ ?_
      refine q9 hn ?_
      refine Or.inl (And.intro (T9 hx36 hl22) ?_)
      refine A12 _ _ ?_
      exact jn ⟨(rest32,k23+1,v38,v39),hd2,h31⟩ [] (by show rest32.length < rest32.length+1; omega)
    rintro ⟨⟨v28,v29⟩,rfl⟩
    refine A8 _ _ ?_
    refine A7 _ _ ?_
    exact jn ⟨_,sj h19⟩ []
   rintro ⟨⟨v17,v18⟩,rfl⟩
   refine A6 _ _ ?_
   refine q9 hn ?_
   refine Or.inl (And.intro (T9 hx15 hl1) ?_)
   refine A3 _ _ ?_
   exact jn ⟨(rest11,k2+1,v17,v18),hd2,h10⟩ [] (by show rest11.length < rest11.length+1; omega)
 rintro ⟨⟨v7,v8⟩,rfl⟩
 refine A0 _ _ ?_
 refine j6 hn ?_
 refine got hn ?_
 obtain rfl:=Option.some.inj h
 exact ⟨[],_,fm⟩

/- tally.All -/
set_option maxRecDepth 100000 in
set_option maxHeartbeats 8000000 in
theorem cP2 (N:Nat) (a0:(List Tl)) (a1:St) (r:Int) (h:bB8 N a0 a1=some r):Spec Try.prog 126 [] [.sl 4 (List.map eTl a0),.agg (eSt a1)] (.int r) [] []:=by
 refine Spec.of D5 Try.func126 rfl Try.ntmps126 (by kernel_rfl) rfl rfl rfl fun Γ hn=>?_
 unfold bB8 at h
 refine j6 hn ?_
 refine j6 hn ?_
 refine j5.seqQ fun _ A0 _ _=>?_
 refine j6 hn ?_
 refine u7 (fun hl1=>?_)
 obtain ⟨o6,h7,h⟩:=j4 h
 refine jk (ι:={ s // o6=s }) hn (fun s=>[(5,.int s.1)]) (fun s=>[]) [] [] (fun _ A1 _ _=>?_) ?_
 ·refine j5.blkQ fun _ _ E2 _ _=>?_
  refine lq (ι:={ q:((List Tl)×Nat×Int) // q.1=a0.drop q.2.1∧aK4 N a1 q.1 q.2.1 q.2.2=some o6 }) hn (fun q=>[(5,.int q.1.2.2),(12,.int (q.1.2.1:Int))]) (fun q=>[]) (fun q=>q.1.1.length) [(3,_),(10,_),(11,_)] [(3,_)] ⟨(a0,0,(0:Int)),rfl,h7⟩ [] ?_
  rintro ⟨⟨rest_,k2,v3⟩,hd9,h7⟩ _ A3 X3 _
  replace hd9:rest_=a0.drop k2:=hd9
  rcases rest_ with _|⟨x11,rest8⟩
  ·have hlt13:=H5 hd9
   replace h7:=(aK4.eq_1 _ _ _ _).symm.trans h7
   refine j6 hn ?_
   refine j5.seqQ fun _ _ X4 _=>?_
   refine l8 hn ?_
   refine d9 hlt13 ?_
   refine K8 hn ?_
   refine X4 _ _ _ ?_
   refine X3 _ _ _ ?_
   refine E2 _ _ ?_
   refine A1 _ _ ?_
   exact jn ⟨_,sj h7⟩ []
  ·obtain ⟨hx12,hd2,hlt13⟩:=F3 hd9
   replace h7:=(aK4.eq_2 _ _ _ _ _ _).symm.trans h7
   refine j6 hn ?_
   refine j5.seqQ fun _ A5 _ _=>?_
   refine l8 hn ?_
   refine j3 hlt13 ?_
   refine q8 hn ?_
   refine A5 _ _ ?_
   refine j5.seqQ fun _ A6 _ _=>?_
   obtain ⟨o16,h15,h7⟩:=j4 h7
   refine jk (ι:={ s // o16=s }) hn (fun s=>[(5,.int s.1)]) (fun s=>[]) [(3,_),(10,_),(11,_),(12,_)] [(3,_)] (fun _ A7 _ _=>?_) ?_
   ·refine j5.blkQ fun _ A8 E8 _ _=>?_
    refine j6 hn ?_
    refine Z4 hx12 ?_
    refine j5.seqQ fun _ A9 X9 _=>?_
    refine j6 hn ?_
    refine l8 hn ?_
    refine l5 h15 (fun hb17 h15=>?_) (fun hb17 h15=>?_)
    ·refine K8 hn ?_
     refine X9 _ _ _ ?_
     refine E8 _ _ ?_
     refine A7 _ _ ?_
     exact jn ⟨_,sj h15⟩ []
    refine q8 hn ?_
    refine A9 _ _ ?_
    refine j6 hn ?_
    refine u7 (fun hl18=>?_)
    obtain ⟨o23,h24,h15⟩:=j4 h15
    refine jk (ι:={ s // o23=s }) hn (fun s=>[(5,.int s.1)]) (fun s=>[]) [(3,_),(10,_),(11,_),(12,_)] [(3,_)] (fun _ A10 _ _=>?_) ?_
    ·refine j5.blkQ fun _ _ E11 _ _=>?_
     refine lq (ι:={ q:((List Ln)×Nat×Int) // q.1=x11.classes.drop q.2.1∧aK0 N q.1 q.2.1 q.2.2=some o23 }) hn (fun q=>[(5,.int q.1.2.2),(23,.int (q.1.2.1:Int))]) (fun q=>[]) (fun q=>q.1.1.length) [(3,_),(10,_),(11,_),(12,_),(21,_),(22,_)] [(3,_)] ⟨(x11.classes,0,v3),rfl,h24⟩ [] ?_
     rintro ⟨⟨rest_,k19,v20⟩,hd26,h24⟩ _ A12 X12 _
     replace hd26:rest_=x11.classes.drop k19:=hd26
     rcases rest_ with _|⟨x28,rest25⟩
     ·have hlt30:=H5 hd26
      replace h24:=(aK0.eq_1 _ _ _).symm.trans h24
      refine j6 hn ?_
      refine j5.seqQ fun _ _ X13 _=>?_
      refine l8 hn ?_
      refine d9 hlt30 ?_
      refine K8 hn ?_
      refine X13 _ _ _ ?_
      refine X12 _ _ _ ?_
      refine E11 _ _ ?_
      refine A10 _ _ ?_
      exact jn ⟨_,sj h24⟩ []
     ·obtain ⟨hx29,hd2,hlt30⟩:=F3 hd26
      replace h24:=(aK0.eq_2 _ _ _ _ _).symm.trans h24
      refine j6 hn ?_
      refine j5.seqQ fun _ A14 _ _=>?_
      refine l8 hn ?_
      refine j3 hlt30 ?_
      refine q8 hn ?_
      refine A14 _ _ ?_
      refine j5.seqQ fun _ A15 _ _=>?_
      refine j5.blkQ fun _ A16 _ _ _=>?_
      refine j6 hn ?_
      refine Z4 hx29 ?_
      refine q9 hn ?_
      refine Or.inr ?_
      refine A16 _ _ ?_
      refine A15 _ _ ?_
      refine q9 hn ?_
      refine Or.inl (And.intro (T9 hx29 hl18) ?_)
      refine A12 _ _ ?_
      exact jn ⟨(rest25,k19+1,(wr (v20+x28.found))),hd2,h24⟩ [] (by show rest25.length < rest25.length+1; omega)
    rintro ⟨v22,hv_⟩
    replace hv_:=hv_.symm
    subst hv_
    refine A8 _ _ ?_
    refine A7 _ _ ?_
    exact jn ⟨_,sj h15⟩ []
   rintro ⟨v14,hv_⟩
   replace hv_:=hv_.symm
   subst hv_
   refine A6 _ _ ?_
   refine q9 hn ?_
   refine Or.inl (And.intro (T9 hx12 hl1) ?_)
   refine A3 _ _ ?_
   exact jn ⟨(rest8,k2+1,v14),hd2,h7⟩ [] (by show rest8.length < rest8.length+1; omega)
 rintro ⟨v5,hv_⟩
 replace hv_:=hv_.symm
 subst hv_
 refine A0 _ _ ?_
 refine j6 hn ?_
 refine got hn ?_
 obtain rfl:=Option.some.inj h
 exact ⟨[],_,fm⟩

/- choose.Site -/
set_option maxRecDepth 100000 in
set_option maxHeartbeats 8000000 in
theorem cA4 (N:Nat) (a0:Wd) (a1:(List Tl)) (a2:St) (a3:ByteArray) (a4:Int) (r:Int) (h:aW2 N a0 a1 a2 a3 a4=some r):Spec Try.prog 106 [] [.agg (P5 a0),.sl 4 (List.map eTl a1),.agg (eSt a2),.str a3,.int a4] (.int r) [] []:=by
 refine Spec.of D5 Try.func106 rfl Try.ntmps106 (by kernel_rfl) rfl rfl rfl fun Γ hn=>?_
 unfold aW2 at h
 refine j6 hn ?_
 refine j6 hn ?_
 obtain ⟨r1,hr2,h⟩:=j4 h
 show l7 Try.prog _ _ _ _
 refine cA (cH4 N a1 a2 r1 hr2) ?_
 refine j5.seqQ fun _ A0 _ R0=>?_
 refine j6 hn ?_
 obtain ⟨r3,hr4,h⟩:=j4 h
 show l7 Try.prog _ _ _ _
 refine cA (cP2 N a1 a2 r3 hr4) ?_
 refine j5.seqQ fun _ A1 _ _=>?_
 obtain ⟨o7,h6,h⟩:=j4 h
 refine jk (ι:={ s // o7=s }) hn (fun s=>[(36,.bool s.1)]) (fun s=>[]) [(3,_),(4,_),(5,_),(11,_)] [(5,_)] (fun _ A2 _ _=>?_) ?_
 ·refine kp [(3,_),(4,_),(5,_),(11,_),(12,_),(13,_)] [(5,_)] ?_
  refine q9 hn ?_
  refine l5 h6 (fun hb8 h6=>?_) (fun hb8 h6=>?_)
  ·refine j3 hb8 ?_
   refine j3 hb8 ?_
   refine A2 _ _ ?_
   exact jn ⟨_,sj h6⟩ []
  refine d9 hb8 ?_
  refine d9 hb8 ?_
  refine l5 h6 (fun hb9 h6=>?_) (fun hb9 h6=>?_)
  ·refine j3 hb9 ?_
   refine j3 hb9 ?_
   refine j3 hb9 ?_
   refine j3 hb9 ?_
   refine A2 _ _ ?_
   exact jn ⟨_,sj h6⟩ []
  refine d9 hb9 ?_
  refine Or.inr ?_
  refine d9 hb9 ?_
  refine d9 hb9 ?_
  refine d9 hb9 ?_
  refine A2 _ _ ?_
  exact jn ⟨_,sj h6⟩ []
 rintro ⟨v5,hv_⟩
 replace hv_:=hv_.symm
 subst hv_
 refine A1 _ _ ?_
 refine l8 hn ?_
 refine l5 h (fun hb10 h=>?_) (fun hb10 h=>?_)
 ·refine j6 hn ?_
  refine got hn ?_
  refine R0 _ _ ?_
  obtain rfl:=Option.some.inj h
  exact ⟨[],_,fm⟩
 refine q8 hn ?_
 refine A0 _ _ ?_
 refine j6 hn ?_
 obtain ⟨r11,hr12,h⟩:=j4 h
 show l7 Try.prog _ _ _ _
 refine cA (aW7 N a0 r1.1 a3 r11 hr12) ?_
 refine j5.seqQ fun _ A3 _ R3=>?_
 refine j5.seqQ fun _ A4 _ _=>?_
 obtain ⟨o15,h14,h⟩:=j4 h
 refine jk (ι:={ s // o15=s }) hn (fun s=>[(72,.bool s.1)]) (fun s=>[]) [(11,_)] [] (fun _ A5 _ _=>?_) ?_
 ·refine q9 hn ?_
  refine l5 h14 (fun hb16 h14=>?_) (fun hb16 h14=>?_)
  ·refine j3 hb16 ?_
   refine j3 hb16 ?_
   refine j3 hb16 ?_
   refine j3 hb16 ?_
   refine j3 hb16 ?_
   refine j3 hb16 ?_
   refine j3 hb16 ?_
   refine j3 hb16 ?_
   refine j3 hb16 ?_
   refine j3 hb16 ?_
   refine j3 hb16 ?_
   refine A5 _ _ ?_
   exact jn ⟨_,sj h14⟩ []
  refine d9 hb16 ?_
  refine d9 hb16 ?_
  refine d9 hb16 ?_
  obtain ⟨x17,hx18,h14⟩:=j4 h14
  refine I8 hx18 ?_
  refine d9 hb16 ?_
  refine d9 hb16 ?_
  refine d9 hb16 ?_
  refine d9 hb16 ?_
  obtain ⟨x19,hx20,h14⟩:=j4 h14
  refine I8 hx20 ?_
  refine d9 hb16 ?_
  refine d9 hb16 ?_
  obtain ⟨r21,hr22,h14⟩:=j4 h14
  show l7 Try.prog _ _ _ _
  refine cA (bN8 N x19 r21 hr22) ?_
  refine d9 hb16 ?_
  refine d9 hb16 ?_
  refine l5 h14 (fun hb23 h14=>?_) (fun hb23 h14=>?_)
  ·refine j3 hb23 ?_
   refine j3 hb23 ?_
   refine j3 hb23 ?_
   refine j3 hb23 ?_
   refine j3 hb23 ?_
   refine j3 hb23 ?_
   refine j3 hb23 ?_
   refine j3 hb23 ?_
   refine j3 hb23 ?_
   refine j3 hb23 ?_
   refine j3 hb23 ?_
   refine j3 hb23 ?_
   refine A5 _ _ ?_
   exact jn ⟨_,sj h14⟩ []
  refine d9 hb23 ?_
  refine d9 hb23 ?_
  refine d9 hb23 ?_
  obtain ⟨x24,hx25,h14⟩:=j4 h14
  refine I8 hx25 ?_
  refine d9 hb23 ?_
  refine d9 hb23 ?_
  refine d9 hb23 ?_
  refine d9 hb23 ?_
  obtain ⟨x26,hx27,h14⟩:=j4 h14
  refine I8 hx27 ?_
  refine d9 hb23 ?_
  refine d9 hb23 ?_
  refine d9 hb23 ?_
  refine d9 hb23 ?_
  refine d9 hb23 ?_
  refine A5 _ _ ?_
  exact jn ⟨_,sj h14⟩ []
 rintro ⟨v13,hv_⟩
 replace hv_:=hv_.symm
 subst hv_
 refine A4 _ _ ?_
 refine l8 hn ?_
 refine l5 h (fun hb28 h=>?_) (fun hb28 h=>?_)
 ·refine j6 hn ?_
  refine got hn ?_
  refine R3 _ _ ?_
  obtain rfl:=Option.some.inj h
  exact ⟨[],_,fm⟩
 refine q8 hn ?_
 refine A3 _ _ ?_
 refine j6 hn ?_
 refine got hn ?_
 obtain rfl:=Option.some.inj h
 exact ⟨[],_,fm⟩

/- choose.Sites -/
set_option maxRecDepth 100000 in
set_option maxHeartbeats 8000000 in
theorem b84 (N:Nat) (a0:Wd) (a1:(List Tl)) (a2:Int) (a3:Int) (r:(List Int)) (h:aJ4 N a0 a1 a2 a3=some r):Spec Try.prog 77 [] [.agg (P5 a0),.sl 4 (List.map eTl a1),.int a2,.int a3] (.own 0) [(0,.row 1 (List.map C8 r) 3)] [0]:=by
 refine Spec.of D5 Try.func77 rfl Try.ntmps77 (by kernel_rfl) rfl rfl rfl fun Γ hn=>?_
 unfold aJ4 at h
 refine j6 hn ?_
 refine j5.seqQ fun _ A0 _ R0=>?_
 refine j5.seqQ fun _ A1 _ _=>?_
 obtain ⟨o3,h2,h⟩:=j4 h
 refine jk (ι:={ s // o3=s }) hn (fun s=>[(37,.bool s.1)]) (fun s=>[]) [(1,_),(2,_),(3,_),(4,_)] [(4,_)] (fun _ A2 _ _=>?_) ?_
 ·refine q9 hn ?_
  refine l5 h2 (fun hb4 h2=>?_) (fun hb4 h2=>?_)
  ·refine j3 hb4 ?_
   refine j3 hb4 ?_
   refine j3 hb4 ?_
   refine j3 hb4 ?_
   refine j3 hb4 ?_
   refine A2 _ _ ?_
   exact jn ⟨_,sj h2⟩ []
  refine d9 hb4 ?_
  refine d9 hb4 ?_
  refine d9 hb4 ?_
  refine u7 (fun _=>?_)
  refine d9 hb4 ?_
  refine d9 hb4 ?_
  refine l5 h2 (fun hb6 h2=>?_) (fun hb6 h2=>?_)
  ·refine j3 hb6 ?_
   refine j3 hb6 ?_
   refine A2 _ _ ?_
   exact jn ⟨_,sj h2⟩ []
  refine d9 hb6 ?_
  refine d9 hb6 ?_
  refine l5 h2 (fun hb7 h2=>?_) (fun hb7 h2=>?_)
  ·refine j3 hb7 ?_
   refine j3 hb7 ?_
   refine j3 hb7 ?_
   refine j3 hb7 ?_
   refine j3 hb7 ?_
   refine j3 hb7 ?_
   refine j3 hb7 ?_
   refine j3 hb7 ?_
   refine j3 hb7 ?_
   refine A2 _ _ ?_
   exact jn ⟨_,sj h2⟩ []
  refine d9 hb7 ?_
  refine d9 hb7 ?_
  refine d9 hb7 ?_
  refine d9 hb7 ?_
  obtain ⟨x8,hx9,h2⟩:=j4 h2
  refine I8 hx9 ?_
  refine d9 hb7 ?_
  refine d9 hb7 ?_
  refine d9 hb7 ?_
  refine u7 (fun _=>?_)
  refine d9 hb7 ?_
  refine d9 hb7 ?_
  refine A2 _ _ ?_
  exact jn ⟨_,sj h2⟩ []
 rintro ⟨v1,hv_⟩
 replace hv_:=hv_.symm
 subst hv_
 refine A1 _ _ ?_
 refine l8 hn ?_
 refine l5 h (fun hb11 h=>?_) (fun hb11 h=>?_)
 ·refine j6 hn ?_
  refine j5.nilrow 8 208 1 3 rfl rfl rfl ?_
  refine got hn ?_
  refine R0 _ _ ?_
  obtain rfl:=Option.some.inj h
  exact ⟨[(0,208)],_,fm⟩
 refine q8 hn ?_
 refine A0 _ _ ?_
 refine j6 hn ?_
 obtain ⟨x12,hx13,h⟩:=j4 h
 refine I8 hx13 ?_
 obtain ⟨x14,hx15,h⟩:=j4 h
 refine I8 hx15 ?_
 refine j6 hn ?_
 refine j5.seqQ fun _ A3 _ _=>?_
 refine j6 hn ?_
 refine u7 (fun hl16=>?_)
 refine j5.nilrow 10 210 1 3 rfl rfl rfl ?_
 obtain ⟨o21,h22,h⟩:=j4 h
 refine jk (ι:={ s // o21=s }) hn (fun s=>[]) (fun s=>[(210,.row 1 (List.map C8 s.1) 3)]) [(10,_)] [] (fun _ A4 _ _=>?_) ?_
 ·refine j5.blkQ fun _ _ E5 _ _=>?_
  refine lq (ι:={ q:((List Ins)×Nat×(List Int)) // q.1=x14.code.drop q.2.1∧aC3 N a0 a1 a2 x14 q.1 q.2.1 q.2.2=some o21 }) hn (fun q=>[(51,.int (q.1.2.1:Int))]) (fun q=>[(210,.row 1 (List.map C8 q.1.2.2) 3)]) (fun q=>q.1.1.length) [(1,_),(2,_),(4,_),(9,_),(10,_),(49,_),(50,_)] [(4,_)] ⟨(x14.code,0,([]:List Int)),rfl,h22⟩ [] ?_
  rintro ⟨⟨rest_,k17,v18⟩,hd24,h22⟩ _ A6 X6 _
  replace hd24:rest_=x14.code.drop k17:=hd24
  rcases rest_ with _|⟨x26,rest23⟩
  ·have hlt28:=H5 hd24
   replace h22:=(aC3.eq_1 _ _ _ _ _ _ _).symm.trans h22
   refine j6 hn ?_
   refine j5.seqQ fun _ _ X7 _=>?_
   refine l8 hn ?_
   refine d9 hlt28 ?_
   refine K8 hn ?_
   refine X7 _ _ _ ?_
   refine X6 _ _ _ ?_
   refine E5 _ _ ?_
   refine A4 _ _ ?_
   exact jn ⟨_,sj h22⟩ []
  ·obtain ⟨hx27,hd2,hlt28⟩:=F3 hd24
   replace h22:=(aC3.eq_2 _ _ _ _ _ _ _ _ _).symm.trans h22
   refine j6 hn ?_
   refine j5.seqQ fun _ A8 _ _=>?_
   refine l8 hn ?_
   refine j3 hlt28 ?_
   refine q8 hn ?_
   refine A8 _ _ ?_
   refine j5.seqQ fun _ A9 _ _=>?_
   refine j5.blkQ fun _ A10 _ _ _=>?_
   refine j6 hn ?_
   refine Z4 hx27 ?_
   refine j6 hn ?_
   refine j5.seqQ fun _ A11 _ _=>?_
   refine j6 hn ?_
   obtain ⟨o31,h30,h22⟩:=j4 h22
   refine jk (ι:={ s // o31=s }) hn (fun s=>[(13,.int s.1)]) (fun s=>[]) [(1,_),(2,_),(4,_),(9,_),(10,_),(49,_),(50,_),(51,_)] [(4,_),(210,_)] (fun _ A12 _ _=>?_) ?_
   ·refine l8 hn ?_
    refine l5 h30 (fun hb32 h30=>?_) (fun hb32 h30=>?_)
    ·refine kp [(1,_),(2,_),(4,_),(9,_),(10,_),(11,_),(12,_),(49,_),(50,_),(51,_)] [(4,_),(12,_),(210,_)] ?_
     refine H7 hn (by kernel_rfl) ?_
     obtain ⟨r33,hr34,h30⟩:=j4 h30
     show l7 Try.prog _ _ _ _
     refine cA (cA4 N a0 a1 (⟨a2,x14.name,(k17:Int)⟩:St) x26.name x26.a r33 hr34) ?_
     refine A12 _ _ ?_
     exact jn ⟨_,sj h30⟩ []
    refine q8 hn ?_
    refine A12 _ _ ?_
    exact jn ⟨_,sj h30⟩ []
   rintro ⟨v29,hv_⟩
   replace hv_:=hv_.symm
   subst hv_
   refine A11 _ _ ?_
   refine q9 hn ?_
   refine Exists.intro (List.map C8 [v29]) (And.intro (by repeat (first|exact trivial|exact rfl|(refine And.intro ?_ ?_))) ?_)
   obtain ⟨hg35,h22⟩:=C9 h22
   refine O7 (l2:=[v29]) hg35 (z8 _) ?_
   refine A10 _ _ ?_
   refine A9 _ _ ?_
   refine q9 hn ?_
   refine Or.inl (And.intro (T9 hx27 hl16) ?_)
   refine A6 _ _ ?_
   exact jn ⟨(rest23,k17+1,(v18++[v29])),hd2,h22⟩ [(210,76)] (by show rest23.length < rest23.length+1; omega)
 rintro ⟨v20,hv_⟩
 replace hv_:=hv_.symm
 subst hv_
 refine A3 _ _ ?_
 refine j6 hn ?_
 refine got hn ?_
 obtain rfl:=Option.some.inj h
 exact ⟨[(0,210)],_,fm⟩

/- fast.All -/
set_option maxRecDepth 100000 in
set_option maxHeartbeats 8000000 in
theorem b23 (N:Nat) (a0:Wd) (a1:(List Tl)) (r:(List Fs)) (h:bA0 N a0 a1=some r):Spec Try.prog 37 [] [.agg (P5 a0),.sl 4 (List.map eTl a1)] (.own 0) [(0,.row 5 (List.map eFs r) 63)] [0]:=by
 refine Spec.of D5 Try.func37 rfl Try.ntmps37 (by kernel_rfl) rfl rfl rfl fun Γ hn=>?_
 unfold bA0 at h
 refine j6 hn ?_
 refine j6 hn ?_
 refine j5.seqQ fun _ A0 _ _=>?_
 refine j6 hn ?_
 refine u7 (fun hl1=>?_)
 refine j5.nilrow 5 205 5 63 rfl rfl rfl ?_
 obtain ⟨o6,h7,h⟩:=j4 h
 refine jk (ι:={ s // o6=s }) hn (fun s=>[]) (fun s=>[(205,.row 5 (List.map eFs s.1) 63)]) [(5,_)] [] (fun _ A1 _ _=>?_) ?_
 ·refine j5.blkQ fun _ _ E2 _ _=>?_
  refine lq (ι:={ q:((List Cl)×Nat×(List Fs)) // q.1=a0.classes.drop q.2.1∧aI2 N a0 a1 q.1 q.2.1 q.2.2=some o6 }) hn (fun q=>[(13,.int (q.1.2.1:Int))]) (fun q=>[(205,.row 5 (List.map eFs q.1.2.2) 63)]) (fun q=>q.1.1.length) [(1,_),(2,_),(5,_),(12,_)] [(2,_)] ⟨(a0.classes,0,([]:List Fs)),rfl,h7⟩ [] ?_
  rintro ⟨⟨rest_,k2,v3⟩,hd9,h7⟩ _ A3 X3 _
  replace hd9:rest_=a0.classes.drop k2:=hd9
  rcases rest_ with _|⟨x11,rest8⟩
  ·have hlt13:=H5 hd9
   replace h7:=(aI2.eq_1 _ _ _ _ _).symm.trans h7
   refine j6 hn ?_
   refine j5.seqQ fun _ _ X4 _=>?_
   refine l8 hn ?_
   refine d9 hlt13 ?_
   refine K8 hn ?_
   refine X4 _ _ _ ?_
   refine X3 _ _ _ ?_
   refine E2 _ _ ?_
   refine A1 _ _ ?_
   exact jn ⟨_,sj h7⟩ []
  ·obtain ⟨hx12,hd2,hlt13⟩:=F3 hd9
   replace h7:=(aI2.eq_2 _ _ _ _ _ _ _).symm.trans h7
   refine j6 hn ?_
   refine j5.seqQ fun _ A5 _ _=>?_
   refine l8 hn ?_
   refine j3 hlt13 ?_
   refine q8 hn ?_
   refine A5 _ _ ?_
   refine j5.seqQ fun _ A6 _ _=>?_
   refine j5.blkQ fun _ A7 _ _ _=>?_
   refine j6 hn ?_
   refine j6 hn ?_
   refine Z4 hx12 ?_
   refine u7 (fun hl14=>?_)
   obtain ⟨o19,h20,h7⟩:=j4 h7
   refine jk (ι:={ s // o19=s }) hn (fun s=>[]) (fun s=>[(205,.row 5 (List.map eFs s.1) 63)]) [(1,_),(2,_),(5,_),(12,_),(13,_)] [(2,_)] (fun _ A8 _ _=>?_) ?_
   ·refine j5.blkQ fun _ _ E9 _ _=>?_
    refine lq (ι:={ q:((List Me)×Nat×(List Fs)) // q.1=x11.methods.drop q.2.1∧aI4 N a0 a1 k2 q.1 q.2.1 q.2.2=some o19 }) hn (fun q=>[(23,.int (q.1.2.1:Int))]) (fun q=>[(205,.row 5 (List.map eFs q.1.2.2) 63)]) (fun q=>q.1.1.length) [(1,_),(2,_),(5,_),(6,_),(12,_),(13,_),(22,_)] [(2,_)] ⟨(x11.methods,0,v3),rfl,h20⟩ [] ?_
    rintro ⟨⟨rest_,k15,v16⟩,hd22,h20⟩ _ A10 X10 _
    replace hd22:rest_=x11.methods.drop k15:=hd22
    rcases rest_ with _|⟨x24,rest21⟩
    ·have hlt26:=H5 hd22
     replace h20:=(aI4.eq_1 _ _ _ _ _ _).symm.trans h20
     refine j6 hn ?_
     refine j5.seqQ fun _ _ X11 _=>?_
     refine l8 hn ?_
     refine d9 hlt26 ?_
     refine K8 hn ?_
     refine X11 _ _ _ ?_
     refine X10 _ _ _ ?_
     refine E9 _ _ ?_
     refine A8 _ _ ?_
     exact jn ⟨_,sj h20⟩ []
    ·obtain ⟨hx25,hd2,hlt26⟩:=F3 hd22
     replace h20:=(aI4.eq_2 _ _ _ _ _ _ _ _).symm.trans h20
     refine j6 hn ?_
     refine j5.seqQ fun _ A12 _ _=>?_
     refine l8 hn ?_
     refine j3 hlt26 ?_
     refine q8 hn ?_
     refine A12 _ _ ?_
     refine j5.seqQ fun _ A13 _ _=>?_
     obtain ⟨o29,h28,h20⟩:=j4 h20
     refine jk (ι:={ s // o29=s }) hn (fun s=>[(5,.own 42)]) (fun s=>[(42,.row 5 (List.map eFs s.1) 63)]) [(1,_),(2,_),(6,_),(12,_),(13,_),(22,_),(23,_)] [(2,_)] (fun _ A14 _ _=>?_) ?_
     ·refine j5.blkQ fun _ A15 _ _ _=>?_
      refine j6 hn ?_
      refine j5.seqQ fun _ A16 _ _=>?_
      refine H7 hn (by kernel_rfl) ?_
      obtain ⟨r30,hr31,h28⟩:=j4 h28
      show l7 Try.prog _ _ _ _
      refine cA ((b84 N a0 a1 (k2:Int) (k15:Int) r30 hr31).sw 0 34) ?_
      obtain ⟨r32,hr33,h28⟩:=j4 h28
      show l7 Try.prog _ _ _ _
      refine cF (b55 N a0 (k2:Int) (k15:Int) r30 r32 hr33) ?_
      refine A16 _ _ ?_
      refine kp [(1,_),(2,_),(5,_),(6,_),(8,_),(9,_),(12,_),(13,_),(22,_),(23,_)] [(2,_),(8,_),(205,_)] ?_
      refine j6 hn ?_
      obtain ⟨o36,h35,h28⟩:=j4 h28
      refine jk (ι:={ s // o36=s }) hn (fun s=>[(5,.own 42)]) (fun s=>[(42,.row 5 (List.map eFs s.1) 63)]) [(1,_),(2,_),(6,_),(12,_),(13,_),(22,_),(23,_)] [(2,_)] (fun _ A17 _ _=>?_) ?_
      ·refine l8 hn ?_
       refine l5 h35 (fun hb37 h35=>?_) (fun hb37 h35=>?_)
       ·refine q9 hn ?_
        refine Exists.intro (List.map eFs [r32.1]) (And.intro (by repeat (first|exact trivial|exact rfl|(refine And.intro ?_ ?_))) ?_)
        obtain ⟨hg38,h35⟩:=C9 h35
        refine O7 (l2:=[r32.1]) hg38 (z8 _) ?_
        refine A17 _ _ ?_
        exact jn ⟨_,sj h35⟩ []
       refine q8 hn ?_
       refine A17 _ _ ?_
       exact jn ⟨_,sj h35⟩ [(42,205)]
      rintro ⟨v34,hv_⟩
      replace hv_:=hv_.symm
      subst hv_
      refine A15 _ _ ?_
      refine A14 _ _ ?_
      exact jn ⟨_,sj h28⟩ []
     rintro ⟨v27,hv_⟩
     replace hv_:=hv_.symm
     subst hv_
     refine A13 _ _ ?_
     refine q9 hn ?_
     refine Or.inl (And.intro (T9 hx25 hl14) ?_)
     refine A10 _ _ ?_
     exact jn ⟨(rest21,k15+1,v27),hd2,h20⟩ [(205,42)] (by show rest21.length < rest21.length+1; omega)
   rintro ⟨v18,hv_⟩
   replace hv_:=hv_.symm
   subst hv_
   refine A7 _ _ ?_
   refine A6 _ _ ?_
   refine q9 hn ?_
   refine Or.inl (And.intro (T9 hx12 hl1) ?_)
   refine A3 _ _ ?_
   exact jn ⟨(rest8,k2+1,v18),hd2,h7⟩ [] (by show rest8.length < rest8.length+1; omega)
 rintro ⟨v5,hv_⟩
 replace hv_:=hv_.symm
 subst hv_
 refine A0 _ _ ?_
 refine j6 hn ?_
 refine got hn ?_
 obtain rfl:=Option.some.inj h
 exact ⟨[(0,205)],_,fm⟩

/- fast.Run$1 -/
set_option maxRecDepth 100000 in
set_option maxHeartbeats 8000000 in
theorem cG9 (N:Nat) (a0:St) (a1:Int) (a2:ByteArray) (b0:Wd) (r:(Int×Int)) (h:aP6 N a0 a1 a2 b0=some r):Spec Try.prog 75 [] [.agg (eSt a0),.int a1,.str a2,.fp (P5 b0)] (.tup [.int r.1,.int r.2]) [] []:=by
 refine Spec.of D5 Try.func75 rfl Try.ntmps75 (by kernel_rfl) rfl rfl rfl fun Γ hn=>?_
 unfold aP6 at h
 refine j6 hn ?_
 refine j6 hn ?_
 obtain ⟨r1,hr2,h⟩:=j4 h
 show l7 Try.prog _ _ _ _
 refine cA (aW7 N b0 a1 a2 r1 hr2) ?_
 refine got hn ?_
 obtain rfl:=Option.some.inj h
 exact ⟨[],_,fm⟩

/- fast.Run$2 -/
set_option maxRecDepth 100000 in
set_option maxHeartbeats 8000000 in
theorem cH7 (N:Nat) (a0:Int) (a1:Int) (b0:(List Fs)) (b1:Wd) (r:(Fs×Bool)) (h:aP0 N a0 a1 b0 b1=some r):Spec Try.prog 76 [] [.int a0,.int a1,.fp [.sl 5 (List.map eFs b0)],.fp (P5 b1)] (.tup [.agg (eFs r.1),.bool r.2]) [] []:=by
 refine Spec.of D5 Try.func76 rfl Try.ntmps76 (by kernel_rfl) rfl rfl rfl fun Γ hn=>?_
 unfold aP0 at h
 refine j6 hn ?_
 refine j5.seqQ fun _ A0 _ R0=>?_
 refine j6 hn ?_
 refine u7 (fun hl1=>?_)
 obtain ⟨o3,h4,h⟩:=j4 h
 refine jk (ι:={ s // o3=D7.next s }) hn (fun s=>[]) (fun s=>[]) [(6,_)] [(6,_)] (fun _ A1 _ R1=>?_) ?_
 ·refine j5.blkQ fun _ _ E2 _ R2=>?_
  refine lq (ι:={ q:((List Fs)×Nat) // q.1=b0.drop q.2∧aD2 N a0 a1 b1 q.1 q.2=some o3 }) hn (fun q=>[(12,.int (q.1.2:Int))]) (fun q=>[]) (fun q=>q.1.1.length) [(0,_),(1,_),(3,_),(6,_),(10,_),(11,_)] [(6,_)] ⟨(b0,0),rfl,h4⟩ [] ?_
  rintro ⟨⟨rest_,k2⟩,hd6,h4⟩ _ A3 X3 R3
  replace hd6:rest_=b0.drop k2:=hd6
  rcases rest_ with _|⟨x8,rest5⟩
  ·have hlt10:=H5 hd6
   replace h4:=(aD2.eq_1 _ _ _ _ _).symm.trans h4
   refine j6 hn ?_
   refine j5.seqQ fun _ _ X4 _=>?_
   refine l8 hn ?_
   refine d9 hlt10 ?_
   refine K8 hn ?_
   refine X4 _ _ _ ?_
   refine X3 _ _ _ ?_
   refine E2 _ _ ?_
   refine A1 _ _ ?_
   exact jn ⟨_,sj h4⟩ []
  ·obtain ⟨hx9,hd2,hlt10⟩:=F3 hd6
   replace h4:=(aD2.eq_2 _ _ _ _ _ _ _).symm.trans h4
   refine j6 hn ?_
   refine j5.seqQ fun _ A5 _ _=>?_
   refine l8 hn ?_
   refine j3 hlt10 ?_
   refine q8 hn ?_
   refine A5 _ _ ?_
   refine j5.seqQ fun _ A6 _ R6=>?_
   refine j5.blkQ fun _ A7 _ _ R7=>?_
   refine j6 hn ?_
   refine Z4 hx9 ?_
   refine j5.seqQ fun _ A8 _ _=>?_
   obtain ⟨o13,h12,h4⟩:=j4 h4
   refine jk (ι:={ s // o13=s }) hn (fun s=>[(41,.bool s.1)]) (fun s=>[]) [(0,_),(1,_),(3,_),(6,_),(9,_),(10,_),(11,_),(12,_)] [(6,_),(9,_)] (fun _ A9 _ _=>?_) ?_
   ·refine kp [(0,_),(1,_),(3,_),(6,_),(9,_),(10,_),(11,_),(12,_)] [(6,_),(9,_)] ?_
    refine H7 hn (by kernel_rfl) ?_
    refine l5 h12 (fun hb14 h12=>?_) (fun hb14 h12=>?_)
    ·refine j3 hb14 ?_
     refine j3 hb14 ?_
     refine j3 hb14 ?_
     refine j3 hb14 ?_
     refine j3 hb14 ?_
     obtain ⟨x15,hx16,h12⟩:=j4 h12
     refine I8 hx16 ?_
     refine j3 hb14 ?_
     refine j3 hb14 ?_
     refine j3 hb14 ?_
     refine j3 hb14 ?_
     obtain ⟨x17,hx18,h12⟩:=j4 h12
     refine I8 hx18 ?_
     refine j3 hb14 ?_
     refine j3 hb14 ?_
     refine j3 hb14 ?_
     refine j3 hb14 ?_
     refine l5 h12 (fun hb19 h12=>?_) (fun hb19 h12=>?_)
     ·refine j3 hb19 ?_
      refine j3 hb19 ?_
      refine j3 hb19 ?_
      refine j3 hb19 ?_
      refine j3 hb19 ?_
      refine A9 _ _ ?_
      exact jn ⟨_,sj h12⟩ []
     refine d9 hb19 ?_
     refine d9 hb19 ?_
     refine d9 hb19 ?_
     refine d9 hb19 ?_
     refine d9 hb19 ?_
     refine A9 _ _ ?_
     exact jn ⟨_,sj h12⟩ []
    refine d9 hb14 ?_
    refine d9 hb14 ?_
    refine d9 hb14 ?_
    refine d9 hb14 ?_
    refine d9 hb14 ?_
    refine d9 hb14 ?_
    refine d9 hb14 ?_
    refine d9 hb14 ?_
    refine d9 hb14 ?_
    refine d9 hb14 ?_
    refine d9 hb14 ?_
    refine d9 hb14 ?_
    refine d9 hb14 ?_
    refine A9 _ _ ?_
    exact jn ⟨_,sj h12⟩ []
   rintro ⟨v11,hv_⟩
   replace hv_:=hv_.symm
   subst hv_
   refine A8 _ _ ?_
   refine l8 hn ?_
   refine l5 h4 (fun hb20 h4=>?_) (fun hb20 h4=>?_)
   ·refine j6 hn ?_
    refine got hn ?_
    refine R7 _ _ ?_
    refine R6 _ _ ?_
    refine R3 _ _ ?_
    refine R2 _ _ ?_
    refine R1 _ _ ?_
    refine R0 _ _ ?_
    obtain rfl:=Option.some.inj h4
    obtain rfl:=Option.some.inj h
    exact ⟨[],_,fm⟩
   refine q8 hn ?_
   refine A7 _ _ ?_
   refine A6 _ _ ?_
   refine q9 hn ?_
   refine Or.inl (And.intro (T9 hx9 hl1) ?_)
   refine A3 _ _ ?_
   exact jn ⟨(rest5,k2+1),hd2,h4⟩ [] (by show rest5.length < rest5.length+1; omega)
 rintro ⟨⟨⟩,rfl⟩
 refine A0 _ _ ?_
 refine j6 hn ?_
 refine got hn ?_
 obtain rfl:=Option.some.inj h
 exact ⟨[],_,fm⟩

/- fast.Run -/
set_option maxRecDepth 100000 in
set_option maxHeartbeats 8000000 in
theorem b06 (N:Nat) (a0:Wd) (a1:O6) (a2:Int) (a3:(List Fs)) (r:(Wd×aL3)) (h:a94 N a0 a1 a2 a3=some r):Spec Try.prog 36 [] [.agg (P5 a0),.agg (bH6 a1),.int a2,.sl 5 (List.map eFs a3)] (.tup [.agg (P5 r.1),.agg (bE9 r.2)]) [] []:=by
 refine Spec.of D5 Try.func36 rfl Try.ntmps36 (by kernel_rfl) rfl rfl rfl fun Γ hn=>?_
 unfold a94 at h
 refine j6 hn ?_
 refine j5.gh (Gh.fzBox 4 4 rfl rfl rfl) (fun _=>?_)
 refine j5.gh (Gh.fzBox 7 7 rfl rfl rfl) (fun _=>?_)
 refine kp [(2,_),(4,_),(5,_),(7,_),(8,_),(9,_)] [(5,_),(8,_),(9,_)] ?_
 refine j6 hn ?_
 obtain ⟨r1,hr2,h⟩:=j4 h
 show l7 Try.prog _ _ _ _
 refine cA (b60 N a0 a1 a2 (fun x0_ x1_ x2_=>aP6 N x0_ x1_ x2_ a0) (fun x0_ x1_=>aP0 N x0_ x1_ a3 a0) (fun x0_ x1_ x2_ y_ hy_=>cG9 N x0_ x1_ x2_ a0 y_ hy_) (fun x0_ x1_ y_ hy_=>cH7 N x0_ x1_ a3 a0 y_ hy_) r1 hr2) ?_
 refine got hn ?_
 obtain rfl:=Option.some.inj h
 exact ⟨[],_,fm⟩

/- qclaw11.alive -/
set_option maxRecDepth 100000 in
set_option maxHeartbeats 8000000 in
theorem b59 (N:Nat) (r:Bool) (h:aQ6 N =some r):Spec Try.prog 34 [] [] (.bool r) [] []:=by
 refine Spec.of D5 Try.func34 rfl Try.ntmps34 (by kernel_rfl) rfl rfl rfl fun Γ hn=>?_
 unfold aQ6 at h
 refine j6 hn ?_
 refine j6 hn ?_
 obtain ⟨r1,hr2,h⟩:=j4 h
 show l7 Try.prog _ _ _ _
 refine cA (bS9 N  r1 hr2) ?_
 obtain ⟨r3,hr4,h⟩:=j4 h
 show l7 Try.prog _ _ _ _
 refine cA (cE5 N r1 (⟨#[65]⟩:ByteArray) (0:Int) (0:Int) r3 hr4) ?_
 refine j6 hn ?_
 refine Exists.intro (List.map J2 [(⟨(5:Int),(7:Int),(0:Int),(0:Int),ByteArray.empty⟩:Ins),(⟨(17:Int),(0:Int),(0:Int),(0:Int),ByteArray.empty⟩:Ins)]) (And.intro (by repeat (first|exact trivial|exact rfl|(refine And.intro ?_ ?_))) ?_)
 obtain ⟨r5,hr6,h⟩:=j4 h
 show l7 Try.prog _ _ _ _
 refine cF (bD6 N r3.1 r3.2.1 (⟨(⟨#[103]⟩:ByteArray),(0:Int),(0:Int),(0:Int),[(⟨(5:Int),(7:Int),(0:Int),(0:Int),ByteArray.empty⟩:Ins),(⟨(17:Int),(0:Int),(0:Int),(0:Int),ByteArray.empty⟩:Ins)]⟩:Me) r5 hr6) ?_
 refine kp [(1,_),(2,_)] [(1,_)] ?_
 refine j6 hn ?_
 refine Exists.intro (List.map J2 [(⟨(1:Int),(0:Int),(0:Int),(0:Int),ByteArray.empty⟩:Ins),(⟨(14:Int),(0:Int),(0:Int),(0:Int),(⟨#[103]⟩:ByteArray)⟩:Ins),(⟨(17:Int),(0:Int),(0:Int),(0:Int),ByteArray.empty⟩:Ins)]) (And.intro (by repeat (first|exact trivial|exact rfl|(refine And.intro ?_ ?_))) ?_)
 obtain ⟨r7,hr8,h⟩:=j4 h
 show l7 Try.prog _ _ _ _
 refine cF (bD6 N r5.1 r3.2.1 (⟨(⟨#[109]⟩:ByteArray),(0:Int),(0:Int),(0:Int),[(⟨(1:Int),(0:Int),(0:Int),(0:Int),ByteArray.empty⟩:Ins),(⟨(14:Int),(0:Int),(0:Int),(0:Int),(⟨#[103]⟩:ByteArray)⟩:Ins),(⟨(17:Int),(0:Int),(0:Int),(0:Int),ByteArray.empty⟩:Ins)]⟩:Me) r7 hr8) ?_
 refine j6 hn ?_
 refine Or.inr ?_
 refine Exists.intro (List.map H8 [(⟨r3.2.1,[]⟩:Ob)]) (And.intro (by repeat (first|exact trivial|exact rfl|(refine And.intro ?_ ?_))) ?_)
 refine j5.fzAll 36 rfl ?_
 refine kp [(1,_),(2,_)] [(1,_)] ?_
 refine j6 hn ?_
 refine Exists.intro (List.map eLn [(⟨r3.2.1,(9:Int)⟩:Ln)]) (And.intro (by repeat (first|exact trivial|exact rfl|(refine And.intro ?_ ?_))) ?_)
 refine Exists.intro (List.map eTl [(⟨(⟨r3.2.1,(⟨#[109]⟩:ByteArray),(1:Int)⟩:St),[(⟨r3.2.1,(9:Int)⟩:Ln)]⟩:Tl)]) (And.intro (by repeat (first|exact trivial|exact rfl|(refine And.intro ?_ ?_))) ?_)
 obtain ⟨r9,hr10,h⟩:=j4 h
 show l7 Try.prog _ _ _ _
 refine cF ((b23 N (⟨r7.1.classes,[(⟨r3.2.1,[]⟩:Ob)],r7.1.epoch⟩:Wd) [(⟨(⟨r3.2.1,(⟨#[109]⟩:ByteArray),(1:Int)⟩:St),[(⟨r3.2.1,(9:Int)⟩:Ln)]⟩:Tl)] r9 hr10).sw 0 46) ?_
 refine j5.fzAll 46 rfl ?_
 refine kp [(1,_),(4,_)] [(1,_)] ?_
 refine j6 hn ?_
 obtain ⟨r11,hr12,h⟩:=j4 h
 show l7 Try.prog _ _ _ _
 refine cA (b06 N (⟨r7.1.classes,[(⟨r3.2.1,[]⟩:Ob)],r7.1.epoch⟩:Wd) (⟨(⟨(4:Int),(0:Int)⟩:V),(⟨#[109]⟩:ByteArray),[]⟩:O6) (9:Int) r9 r11 hr12) ?_
 refine j5.seqQ fun _ A0 _ _=>?_
 obtain ⟨o15,h14,h⟩:=j4 h
 refine jk (ι:={ s // o15=s }) hn (fun s=>[(0,.bool s.1)]) (fun s=>[]) [] [] (fun _ A1 _ _=>?_) ?_
 ·refine q9 hn ?_
  refine u7 (fun _=>?_)
  refine l5 h14 (fun hb17 h14=>?_) (fun hb17 h14=>?_)
  ·refine j3 hb17 ?_
   obtain ⟨x18,hx19,h14⟩:=j4 h14
   refine I8 hx19 ?_
   refine j3 hb17 ?_
   refine j3 hb17 ?_
   refine j3 hb17 ?_
   refine j3 hb17 ?_
   refine l5 h14 (fun hb20 h14=>?_) (fun hb20 h14=>?_)
   ·refine j3 hb20 ?_
    refine j3 hb20 ?_
    refine j3 hb20 ?_
    refine j3 hb20 ?_
    refine A1 _ _ ?_
    exact jn ⟨_,sj h14⟩ []
   refine d9 hb20 ?_
   refine d9 hb20 ?_
   refine d9 hb20 ?_
   refine d9 hb20 ?_
   refine A1 _ _ ?_
   exact jn ⟨_,sj h14⟩ []
  refine d9 hb17 ?_
  refine d9 hb17 ?_
  refine d9 hb17 ?_
  refine d9 hb17 ?_
  refine d9 hb17 ?_
  refine A1 _ _ ?_
  exact jn ⟨_,sj h14⟩ []
 rintro ⟨v13,hv_⟩
 replace hv_:=hv_.symm
 subst hv_
 refine A0 _ _ ?_
 refine got hn ?_
 obtain rfl:=Option.some.inj h
 exact ⟨[],_,fm⟩

/- qclaw11.small -/
set_option maxRecDepth 100000 in
set_option maxHeartbeats 8000000 in
theorem b41 (N:Nat) (a0:(List Tl)) (r:Bool) (h:aP9 N a0=some r):Spec Try.prog 35 [] [.sl 4 (List.map eTl a0)] (.bool r) [] []:=by
 refine Spec.of D5 Try.func35 rfl Try.ntmps35 (by kernel_rfl) rfl rfl rfl fun Γ hn=>?_
 unfold aP9 at h
 refine j6 hn ?_
 refine j5.seqQ fun _ A0 _ R0=>?_
 refine j6 hn ?_
 refine u7 (fun hl1=>?_)
 obtain ⟨o3,h4,h⟩:=j4 h
 refine jk (ι:={ s // o3=D7.next s }) hn (fun s=>[]) (fun s=>[]) [] [] (fun _ A1 _ R1=>?_) ?_
 ·refine j5.blkQ fun _ _ E2 _ R2=>?_
  refine lq (ι:={ q:((List Tl)×Nat) // q.1=a0.drop q.2∧aB0 N q.1 q.2=some o3 }) hn (fun q=>[(9,.int (q.1.2:Int))]) (fun q=>[]) (fun q=>q.1.1.length) [(7,_),(8,_)] [] ⟨(a0,0),rfl,h4⟩ [] ?_
  rintro ⟨⟨rest_,k2⟩,hd6,h4⟩ _ A3 X3 R3
  replace hd6:rest_=a0.drop k2:=hd6
  rcases rest_ with _|⟨x8,rest5⟩
  ·have hlt10:=H5 hd6
   replace h4:=(aB0.eq_1 _ _).symm.trans h4
   refine j6 hn ?_
   refine j5.seqQ fun _ _ X4 _=>?_
   refine l8 hn ?_
   refine d9 hlt10 ?_
   refine K8 hn ?_
   refine X4 _ _ _ ?_
   refine X3 _ _ _ ?_
   refine E2 _ _ ?_
   refine A1 _ _ ?_
   exact jn ⟨_,sj h4⟩ []
  ·obtain ⟨hx9,hd2,hlt10⟩:=F3 hd6
   replace h4:=(aB0.eq_2 _ _ _ _).symm.trans h4
   refine j6 hn ?_
   refine j5.seqQ fun _ A5 _ _=>?_
   refine l8 hn ?_
   refine j3 hlt10 ?_
   refine q8 hn ?_
   refine A5 _ _ ?_
   refine j5.seqQ fun _ A6 _ R6=>?_
   refine j5.blkQ fun _ A7 _ _ R7=>?_
   refine j6 hn ?_
   refine Z4 hx9 ?_
   refine j6 hn ?_
   refine u7 (fun hl11=>?_)
   obtain ⟨o13,h14,h4⟩:=j4 h4
   refine jk (ι:={ s // o13=D7.next s }) hn (fun s=>[]) (fun s=>[]) [(7,_),(8,_),(9,_)] [] (fun _ A8 _ R8=>?_) ?_
   ·refine j5.blkQ fun _ _ E9 _ R9=>?_
    refine lq (ι:={ q:((List Ln)×Nat) // q.1=x8.classes.drop q.2∧aB1 N q.1 q.2=some o13 }) hn (fun q=>[(16,.int (q.1.2:Int))]) (fun q=>[]) (fun q=>q.1.1.length) [(7,_),(8,_),(9,_),(14,_),(15,_)] [] ⟨(x8.classes,0),rfl,h14⟩ [] ?_
    rintro ⟨⟨rest_,k12⟩,hd16,h14⟩ _ A10 X10 R10
    replace hd16:rest_=x8.classes.drop k12:=hd16
    rcases rest_ with _|⟨x18,rest15⟩
    ·have hlt20:=H5 hd16
     replace h14:=(aB1.eq_1 _ _).symm.trans h14
     refine j6 hn ?_
     refine j5.seqQ fun _ _ X11 _=>?_
     refine l8 hn ?_
     refine d9 hlt20 ?_
     refine K8 hn ?_
     refine X11 _ _ _ ?_
     refine X10 _ _ _ ?_
     refine E9 _ _ ?_
     refine A8 _ _ ?_
     exact jn ⟨_,sj h14⟩ []
    ·obtain ⟨hx19,hd2,hlt20⟩:=F3 hd16
     replace h14:=(aB1.eq_2 _ _ _ _).symm.trans h14
     refine j6 hn ?_
     refine j5.seqQ fun _ A12 _ _=>?_
     refine l8 hn ?_
     refine j3 hlt20 ?_
     refine q8 hn ?_
     refine A12 _ _ ?_
     refine j5.seqQ fun _ A13 _ R13=>?_
     refine j5.blkQ fun _ A14 _ _ R14=>?_
     refine j6 hn ?_
     refine Z4 hx19 ?_
     refine j5.seqQ fun _ A15 _ _=>?_
     obtain ⟨o23,h22,h14⟩:=j4 h14
     refine jk (ι:={ s // o23=s }) hn (fun s=>[(27,.bool s.1)]) (fun s=>[]) [(7,_),(8,_),(9,_),(14,_),(15,_),(16,_)] [] (fun _ A16 _ _=>?_) ?_
     ·refine q9 hn ?_
      refine l5 h22 (fun hb24 h22=>?_) (fun hb24 h22=>?_)
      ·refine j3 hb24 ?_
       refine j3 hb24 ?_
       refine j3 hb24 ?_
       refine A16 _ _ ?_
       exact jn ⟨_,sj h22⟩ []
      refine d9 hb24 ?_
      refine d9 hb24 ?_
      refine d9 hb24 ?_
      refine A16 _ _ ?_
      exact jn ⟨_,sj h22⟩ []
     rintro ⟨v21,hv_⟩
     replace hv_:=hv_.symm
     subst hv_
     refine A15 _ _ ?_
     refine l8 hn ?_
     refine l5 h14 (fun hb25 h14=>?_) (fun hb25 h14=>?_)
     ·refine j6 hn ?_
      refine got hn ?_
      refine R14 _ _ ?_
      refine R13 _ _ ?_
      refine R10 _ _ ?_
      refine R9 _ _ ?_
      refine R8 _ _ ?_
      refine R7 _ _ ?_
      refine R6 _ _ ?_
      refine R3 _ _ ?_
      refine R2 _ _ ?_
      refine R1 _ _ ?_
      refine R0 _ _ ?_
      obtain rfl:=Option.some.inj h14
      obtain rfl:=Option.some.inj h4
      obtain rfl:=Option.some.inj h
      exact ⟨[],_,fm⟩
     refine q8 hn ?_
     refine A14 _ _ ?_
     refine A13 _ _ ?_
     refine q9 hn ?_
     refine Or.inl (And.intro (T9 hx19 hl11) ?_)
     refine A10 _ _ ?_
     exact jn ⟨(rest15,k12+1),hd2,h14⟩ [] (by show rest15.length < rest15.length+1; omega)
   rintro ⟨⟨⟩,rfl⟩
   refine A7 _ _ ?_
   refine A6 _ _ ?_
   refine q9 hn ?_
   refine Or.inl (And.intro (T9 hx9 hl1) ?_)
   refine A3 _ _ ?_
   exact jn ⟨(rest5,k2+1),hd2,h4⟩ [] (by show rest5.length < rest5.length+1; omega)
 rintro ⟨⟨⟩,rfl⟩
 refine A0 _ _ ?_
 refine j6 hn ?_
 refine got hn ?_
 obtain rfl:=Option.some.inj h
 exact ⟨[],_,fm⟩

/- qclaw11.FastSame -/
set_option maxRecDepth 100000 in
set_option maxHeartbeats 8000000 in
theorem bU2 (N:Nat) (a0:Wd) (a1:O6) (a2:Int) (a3:(List Tl)) (r:Bool) (h:aO4 N a0 a1 a2 a3=some r):Spec Try.prog 11 [] [.agg (P5 a0),.agg (bH6 a1),.int a2,.sl 4 (List.map eTl a3)] (.bool r) [] []:=by
 refine Spec.of D5 Try.func11 rfl Try.ntmps11 (by kernel_rfl) rfl rfl rfl fun Γ hn=>?_
 unfold aO4 at h
 refine j6 hn ?_
 refine j5.seqQ fun _ A0 _ R0=>?_
 refine j6 hn ?_
 obtain ⟨r1,hr2,h⟩:=j4 h
 show l7 Try.prog _ _ _ _
 refine cA (b59 N  r1 hr2) ?_
 refine l8 hn ?_
 refine l5 h (fun hb3 h=>?_) (fun hb3 h=>?_)
 ·refine j6 hn ?_
  refine got hn ?_
  refine R0 _ _ ?_
  obtain rfl:=Option.some.inj h
  exact ⟨[],_,fm⟩
 refine q8 hn ?_
 refine A0 _ _ ?_
 refine j5.seqQ fun _ A1 _ R1=>?_
 refine j5.seqQ fun _ A2 _ _=>?_
 obtain ⟨o6,h5,h⟩:=j4 h
 refine jk (ι:={ s // o6=s }) hn (fun s=>[(23,.bool s.1)]) (fun s=>[]) [(2,_),(3,_),(4,_),(5,_)] [(4,_),(5,_)] (fun _ A3 _ _=>?_) ?_
 ·refine q9 hn ?_
  obtain ⟨r7,hr8,h5⟩:=j4 h5
  show l7 Try.prog _ _ _ _
  refine cA (b71 N a0 r7 hr8) ?_
  refine l5 h5 (fun hb9 h5=>?_) (fun hb9 h5=>?_)
  ·refine j3 hb9 ?_
   refine j3 hb9 ?_
   refine j3 hb9 ?_
   refine A3 _ _ ?_
   exact jn ⟨_,sj h5⟩ []
  refine d9 hb9 ?_
  obtain ⟨r10,hr11,h5⟩:=j4 h5
  show l7 Try.prog _ _ _ _
  refine cA (b41 N a3 r10 hr11) ?_
  refine d9 hb9 ?_
  refine d9 hb9 ?_
  refine A3 _ _ ?_
  exact jn ⟨_,sj h5⟩ []
 rintro ⟨v4,hv_⟩
 replace hv_:=hv_.symm
 subst hv_
 refine A2 _ _ ?_
 refine l8 hn ?_
 refine l5 h (fun hb12 h=>?_) (fun hb12 h=>?_)
 ·refine j6 hn ?_
  refine got hn ?_
  refine R1 _ _ ?_
  obtain rfl:=Option.some.inj h
  exact ⟨[],_,fm⟩
 refine q8 hn ?_
 refine A1 _ _ ?_
 refine j5.seqQ fun _ A4 _ _=>?_
 refine H7 hn (by kernel_rfl) ?_
 obtain ⟨r13,hr14,h⟩:=j4 h
 show l7 Try.prog _ _ _ _
 refine cA ((b23 N a0 a3 r13 hr14).sw 0 30) ?_
 obtain ⟨r15,hr16,h⟩:=j4 h
 show l7 Try.prog _ _ _ _
 refine cF (b06 N a0 a1 a2 r13 r15 hr16) ?_
 refine A4 _ _ ?_
 refine kp [(2,_),(4,_),(5,_),(9,_),(10,_)] [(4,_),(5,_),(9,_),(10,_)] ?_
 refine j6 hn ?_
 obtain ⟨r17,hr18,h⟩:=j4 h
 show l7 Try.prog _ _ _ _
 refine cA (cH2 N a0 a1 a2 r17 hr18) ?_
 refine j5.seqQ fun _ A5 _ _=>?_
 obtain ⟨o21,h20,h⟩:=j4 h
 refine jk (ι:={ s // o21=s }) hn (fun s=>[(8,.bool s.1)]) (fun s=>[]) [] [] (fun _ A6 _ _=>?_) ?_
 ·refine q9 hn ?_
  refine l5 h20 (fun hb22 h20=>?_) (fun hb22 h20=>?_)
  ·refine j3 hb22 ?_
   refine j3 hb22 ?_
   obtain ⟨r23,hr24,h20⟩:=j4 h20
   show l7 Try.prog _ _ _ _
   refine cA (bU6 N r15.1 r17.1 r23 hr24) ?_
   refine j3 hb22 ?_
   refine A6 _ _ ?_
   exact jn ⟨_,sj h20⟩ []
  refine d9 hb22 ?_
  refine d9 hb22 ?_
  refine d9 hb22 ?_
  refine A6 _ _ ?_
  exact jn ⟨_,sj h20⟩ []
 rintro ⟨v19,hv_⟩
 replace hv_:=hv_.symm
 subst hv_
 refine A5 _ _ ?_
 refine got hn ?_
 obtain rfl:=Option.some.inj h
 exact ⟨[],_,fm⟩
end Go.Proofs.Ytkecefjmcimemaa
