/- Walks after the mirrors. Printed by mir.py. -/
import Derived.Test.YtkecefjmcimemaaWk2
namespace Go.Proofs.Ytkecefjmcimemaa
open Go.RowKit
set_option linter.unusedVariables false
/- (*run.machine).fail -/
set_option maxRecDepth 100000 in
set_option maxHeartbeats 8000000 in
theorem run_machine_fail_c1_2_ok (N:Nat) (a0:TMachine) (gl:St→Int→ByteArray→Option (Int×Int)) (gq:Int→Int→Option (Fs×Bool)) (a1:Int) {Kl:Nat} {cl_0:List AV} (hgl:∀x0_ x1_ x2_ y_,gl x0_ x1_ x2_=some y_→Spec Try.prog Kl [] [.agg (eSt x0_),.int x1_,.str x2_,.fp cl_0] (.tup [.int y_.1,.int y_.2]) [] []) {Kq:Nat} {cq_0:List AV} {cq_1:List AV} (hgq:∀x0_ x1_ y_,gq x0_ x1_=some y_→Spec Try.prog Kq [] [.int x0_,.int x1_,.fp cq_0,.fp cq_1] (.tup [.agg (eFs y_.1),.bool y_.2]) [] []) (r:TMachine) (h:run_machine_fail N a0 gl gq a1=some r):Spec Try.prog 60 [(1000,.box [.ptr 1001 0,.fn Kl [.fp cl_0],.fn Kq [.fp cq_0,.fp cq_1],.int a0.fuel,.int a0.sends,.int a0.turns,.own 1003,.int a0.back.k,.int a0.back.n,.int a0.err] 123)] [.ptr 1000 0,.int a1] (.tup []) [(1000,.box [.ptr 1001 0,.fn Kl [.fp cl_0],.fn Kq [.fp cq_0,.fp cq_1],.int r.fuel,.int r.sends,.int r.turns,.own 1003,.int r.back.k,.int r.back.n,.int r.err] 123)] []:=by
 refine Spec.of tabOk Try.func60 rfl Try.ntmps60 (by kernel_rfl) rfl rfl rfl fun Γ hn=>?_
 unfold run_machine_fail at h
 refine COk.snoc ?_
 refine gos hn ?_
 obtain ⟨o3,h2,h⟩:=bindM h
 refine jk (ι:={ s // o3=s }) hn (fun s=>[]) (fun s=>[(1000,.box [.ptr 1001 0,.fn Kl [.fp cl_0],.fn Kq [.fp cq_0,.fp cq_1],.int a0.fuel,.int a0.sends,.int a0.turns,.own 1003,.int a0.back.k,.int a0.back.n,.int s.1] 123)]) [(0,_)] [] (fun _ A0 _ _=>?_) ?_
 ·refine goc hn ?_
  refine bselM h2 (fun hb4 h2=>?_) (fun hb4 h2=>?_)
  ·refine gor hn ?_
   refine A0 _ _ ?_
   exact jn ⟨_,sj h2⟩ []
  refine gok hn ?_
  refine A0 _ _ ?_
  exact jn ⟨_,sj h2⟩ []
 rintro ⟨v1,hv_⟩
 replace hv_:=hv_.symm
 subst hv_
 refine EOk.done ?_
 obtain rfl:=Option.some.inj h
 exact ⟨[],_,fm⟩

/- (*run.machine).count -/
set_option maxRecDepth 100000 in
set_option maxHeartbeats 8000000 in
theorem run_machine_count_c1_2_ok (N:Nat) (a0:TMachine) (gl:St→Int→ByteArray→Option (Int×Int)) (gq:Int→Int→Option (Fs×Bool)) (a1:Bool) {Kl:Nat} {cl_0:List AV} (hgl:∀x0_ x1_ x2_ y_,gl x0_ x1_ x2_=some y_→Spec Try.prog Kl [] [.agg (eSt x0_),.int x1_,.str x2_,.fp cl_0] (.tup [.int y_.1,.int y_.2]) [] []) {Kq:Nat} {cq_0:List AV} {cq_1:List AV} (hgq:∀x0_ x1_ y_,gq x0_ x1_=some y_→Spec Try.prog Kq [] [.int x0_,.int x1_,.fp cq_0,.fp cq_1] (.tup [.agg (eFs y_.1),.bool y_.2]) [] []) (r:(Bool×TMachine)) (h:run_machine_count N a0 gl gq a1=some r):Spec Try.prog 89 [(1000,.box [.ptr 1001 0,.fn Kl [.fp cl_0],.fn Kq [.fp cq_0,.fp cq_1],.int a0.fuel,.int a0.sends,.int a0.turns,.own 1003,.int a0.back.k,.int a0.back.n,.int a0.err] 123),(1003,.deep 10 160 [(7,(2,27)),(8,(2,27))] (List.map eTFrame a0.frames) [] 1005)] [.ptr 1000 0,.bool a1] (.bool r.1) [(1000,.box [.ptr 1001 0,.fn Kl [.fp cl_0],.fn Kq [.fp cq_0,.fp cq_1],.int r.2.fuel,.int r.2.sends,.int r.2.turns,.own 1003,.int r.2.back.k,.int r.2.back.n,.int r.2.err] 123),(1003,.deep 10 160 [(7,(2,27)),(8,(2,27))] (List.map eTFrame a0.frames) [] 1005)] []:=by
 refine Spec.of tabOk Try.func89 rfl Try.ntmps89 (by kernel_rfl) rfl rfl rfl fun Γ hn=>?_
 unfold run_machine_count at h
 refine gos hn ?_
 refine COk.seqQ fun _ A0 _ R0=>?_
 obtain ⟨o8,h7,h⟩:=bindM h
 refine jk (ι:={ s // o8=Ctl.next s }) hn (fun s=>[]) (fun s=>[(1000,.box [.ptr 1001 0,.fn Kl [.fp cl_0],.fn Kq [.fp cq_0,.fp cq_1],.int s.1.1,.int s.1.2.1,.int s.1.2.2.1,.own 1003,.int s.1.2.2.2.1,.int s.1.2.2.2.2.1,.int s.1.2.2.2.2.2] 123)]) [(0,_)] [(1003,_)] (fun _ A1 _ R1=>?_) ?_
 ·refine COk.blkQ fun _ A2 _ _ R2=>?_
  refine COk.seqQ fun _ A3 _ _=>?_
  refine god hn (by kernel_rfl) ?_
  refine A3 _ _ ?_
  obtain ⟨o16,h15,h7⟩:=bindM h7
  refine jk (ι:={ s // o16=Ctl.next s }) hn (fun s=>[]) (fun s=>[(1000,.box [.ptr 1001 0,.fn Kl [.fp cl_0],.fn Kq [.fp cq_0,.fp cq_1],.int s.1.1,.int s.1.2.1,.int s.1.2.2.1,.own 1003,.int s.1.2.2.2.1,.int s.1.2.2.2.2.1,.int s.1.2.2.2.2.2] 123)]) [(0,_)] [(1003,_)] (fun _ A4 _ R4=>?_) ?_
  ·refine goc hn ?_
   refine bselM h15 (fun hb17 h15=>?_) (fun hb17 h15=>?_)
   ·refine gor hn ?_
    obtain ⟨r18,hr19,h15⟩:=bindM h15
    show CallOk Try.prog _ _ _ _
    refine cA (run_machine_fail_c1_2_ok N (⟨(⟨a0.w.classes,a0.w.heap,a0.w.epoch⟩:Wd),a0.fuel,a0.sends,a0.turns,a0.frames,a0.back,a0.err⟩:TMachine) gl gq (13:Int) hgl hgq r18 hr19) ?_
    refine A4 _ _ ?_
    exact jn ⟨_,sj h15⟩ []
   refine COk.seqQ fun _ A5 _ _=>?_
   obtain ⟨o22,h21,h15⟩:=bindM h15
   refine jk (ι:={ s // o22=s }) hn (fun s=>[(24,.bool s.1)]) (fun s=>[]) [(0,_)] [(1000,_),(1003,_)] (fun _ A6 _ _=>?_) ?_
   ·refine gor hn ?_
    refine bselM h21 (fun hb23 h21=>?_) (fun hb23 h21=>?_)
    ·refine bselT hb23 ?_
     refine bselT hb23 ?_
     refine bselT hb23 ?_
     refine bselT hb23 ?_
     refine lenM (fun _=>?_)
     refine bselT hb23 ?_
     refine bselT hb23 ?_
     refine A6 _ _ ?_
     exact jn ⟨_,sj h21⟩ []
    refine bselF hb23 ?_
    refine bselF hb23 ?_
    refine bselF hb23 ?_
    refine bselF hb23 ?_
    refine bselF hb23 ?_
    refine bselF hb23 ?_
    refine A6 _ _ ?_
    exact jn ⟨_,sj h21⟩ []
   rintro ⟨v20,hv_⟩
   replace hv_:=hv_.symm
   subst hv_
   refine A5 _ _ ?_
   refine goc hn ?_
   refine bselM h15 (fun hb25 h15=>?_) (fun hb25 h15=>?_)
   ·refine gor hn ?_
    obtain ⟨r26,hr27,h15⟩:=bindM h15
    show CallOk Try.prog _ _ _ _
    refine cA (run_machine_fail_c1_2_ok N (⟨(⟨a0.w.classes,a0.w.heap,a0.w.epoch⟩:Wd),a0.fuel,a0.sends,a0.turns,a0.frames,a0.back,a0.err⟩:TMachine) gl gq (14:Int) hgl hgq r26 hr27) ?_
    refine A4 _ _ ?_
    exact jn ⟨_,sj h15⟩ []
   refine gos hn ?_
   refine Or.inr ?_
   refine gos hn ?_
   refine got hn ?_
   refine R4 _ _ ?_
   refine R2 _ _ ?_
   refine R1 _ _ ?_
   refine R0 _ _ ?_
   obtain rfl:=Option.some.inj h15
   obtain rfl:=Option.some.inj h7
   obtain rfl:=Option.some.inj h
   exact ⟨[],_,fm⟩
  rintro ⟨⟨v9,v10,v11,v12,v13,v14⟩,rfl⟩
  refine A2 _ _ ?_
  refine A1 _ _ ?_
  exact jn ⟨_,sj h7⟩ []
 rintro ⟨⟨v1,v2,v3,v4,v5,v6⟩,rfl⟩
 refine A0 _ _ ?_
 refine gos hn ?_
 refine got hn ?_
 obtain rfl:=Option.some.inj h
 exact ⟨[],_,fm⟩

/- (*run.machine).give -/
set_option maxRecDepth 100000 in
set_option maxHeartbeats 8000000 in
theorem run_machine_give_c1_2_ok (N:Nat) (a0:TMachine) (gl:St→Int→ByteArray→Option (Int×Int)) (gq:Int→Int→Option (Fs×Bool)) (a1:V) {Kl:Nat} {cl_0:List AV} (hgl:∀x0_ x1_ x2_ y_,gl x0_ x1_ x2_=some y_→Spec Try.prog Kl [] [.agg (eSt x0_),.int x1_,.str x2_,.fp cl_0] (.tup [.int y_.1,.int y_.2]) [] []) {Kq:Nat} {cq_0:List AV} {cq_1:List AV} (hgq:∀x0_ x1_ y_,gq x0_ x1_=some y_→Spec Try.prog Kq [] [.int x0_,.int x1_,.fp cq_0,.fp cq_1] (.tup [.agg (eFs y_.1),.bool y_.2]) [] []) (r:TMachine) (h:run_machine_give N a0 gl gq a1=some r):Spec Try.prog 91 [(1000,.box [.ptr 1001 0,.fn Kl [.fp cl_0],.fn Kq [.fp cq_0,.fp cq_1],.int a0.fuel,.int a0.sends,.int a0.turns,.own 1003,.int a0.back.k,.int a0.back.n,.int a0.err] 123),(1003,.deep 10 160 [(7,(2,27)),(8,(2,27))] (List.map eTFrame a0.frames) [] 1005)] [.ptr 1000 0,.agg (eV a1)] (.tup []) [(1000,.box [.ptr 1001 0,.fn Kl [.fp cl_0],.fn Kq [.fp cq_0,.fp cq_1],.int r.fuel,.int r.sends,.int r.turns,.own 1003,.int r.back.k,.int r.back.n,.int r.err] 123),(1003,.deep 10 160 [(7,(2,27)),(8,(2,27))] (List.map eTFrame r.frames) [] 5),(5,.gone)] [5]:=by
 refine Spec.of tabOk Try.func91 rfl Try.ntmps91 (by kernel_rfl) rfl rfl rfl fun Γ hn=>?_
 unfold run_machine_give at h
 refine COk.snoc ?_
 refine gos hn ?_
 refine COk.seqQ fun _ A0 _ R0=>?_
 refine gos hn ?_
 refine lenM (fun _=>?_)
 refine goc hn ?_
 refine bselM h (fun hb2 h=>?_) (fun hb2 h=>?_)
 ·refine gos hn ?_
  refine COk.gh (Gh.resh 1003 501 rfl rfl rfl rfl) (fun _=>?_)
  refine got hn ?_
  refine R0 _ _ ?_
  obtain rfl:=Option.some.inj h
  exact ⟨[(5,501)],_,fm⟩
 refine gok hn ?_
 refine A0 _ _ ?_
 refine COk.seqQ fun _ A1 _ _=>?_
 refine god hn (by kernel_rfl) ?_
 refine lenM (fun _=>?_)
 refine Or.inr ?_
 obtain ⟨x4,hx5,h⟩:=bindM h
 refine ixD hx5 rfl rfl ?_
 refine A1 _ _ ?_
 refine COk.gh (Gh.detach 1003 502 503 ((wr ((a0.frames.length:Int) - (1:Int))).toNat) 8 rfl rfl (atD (nthO_some hx5).2) rfl rfl rfl rfl rfl rfl rfl rfl) (fun _=>?_)
 refine kp [(0,_),(3,_),(4,_)] [(3,_),(502,_),(503,_),(1000,_),(1003,_)] ?_
 refine god hn (by kernel_rfl) ?_
 refine holeD (nthO_some hx5).2 rfl rfl (by decide) rfl ?_
 refine Exists.intro (List.map eV [a1]) (And.intro (by repeat (first|exact trivial|exact rfl|(refine And.intro ?_ ?_))) ?_)
 obtain ⟨hg6,h⟩:=guardM h
 refine appM (l2:=[a1]) hg6 (leLs_refl _) ?_
 refine holeSD (nthO_some hx5).2 rfl rfl (by decide) ?_
 refine EOk.gh (Gh.attach (l':=List.map eTFrame (a0.frames.set ((wr ((a0.frames.length:Int) - (1:Int))).toNat) (⟨x4.class_,x4.method,x4.fast,x4.code,x4.self_,x4.args,x4.temps,(x4.stack++[a1]),x4.at_⟩:TFrame))) 1003 33 504 ((wr ((a0.frames.length:Int) - (1:Int))).toNat) 8 rfl rfl rfl (atD (nthO_some hx5).2) rfl rfl (setD rfl) rfl rfl rfl rfl rfl rfl) (fun _=>?_)
 refine EOk.done ?_
 obtain rfl:=Option.some.inj h
 exact ⟨[(5,504)],_,fm⟩

/- (*run.machine).enter -/
set_option maxRecDepth 100000 in
set_option maxHeartbeats 8000000 in
theorem run_machine_enter_c1_2_ok (N:Nat) (a0:TMachine) (gl:St→Int→ByteArray→Option (Int×Int)) (gq:Int→Int→Option (Fs×Bool)) (a1:Int) (a2:Int) (a3:V) (a4:(List V)) {Kl:Nat} {cl_0:List AV} (hgl:∀x0_ x1_ x2_ y_,gl x0_ x1_ x2_=some y_→Spec Try.prog Kl [] [.agg (eSt x0_),.int x1_,.str x2_,.fp cl_0] (.tup [.int y_.1,.int y_.2]) [] []) {Kq:Nat} {cq_0:List AV} {cq_1:List AV} (hgq:∀x0_ x1_ y_,gq x0_ x1_=some y_→Spec Try.prog Kq [] [.int x0_,.int x1_,.fp cq_0,.fp cq_1] (.tup [.agg (eFs y_.1),.bool y_.2]) [] []) (r:TMachine) (h:run_machine_enter N a0 gl gq a1 a2 a3 a4=some r):Spec Try.prog 61 [(1000,.box [.ptr 1001 0,.fn Kl [.fp cl_0],.fn Kq [.fp cq_0,.fp cq_1],.int a0.fuel,.int a0.sends,.int a0.turns,.own 1003,.int a0.back.k,.int a0.back.n,.int a0.err] 123),(1001,.box [.sl 4 (List.map eCl a0.w.classes),.own 1002,.int a0.w.epoch] 25),(1003,.deep 10 160 [(7,(2,27)),(8,(2,27))] (List.map eTFrame a0.frames) [] 1005)] [.ptr 1000 0,.int a1,.int a2,.agg (eV a3),.sl 2 (List.map eV a4)] (.tup []) [(1000,.box [.ptr 1001 0,.fn Kl [.fp cl_0],.fn Kq [.fp cq_0,.fp cq_1],.int r.fuel,.int r.sends,.int r.turns,.own 4,.int r.back.k,.int r.back.n,.int r.err] 123),(1001,.box [.sl 4 (List.map eCl a0.w.classes),.own 1002,.int a0.w.epoch] 25),(4,.deep 10 160 [(7,(2,27)),(8,(2,27))] (List.map eTFrame r.frames) [] 5),(5,.gone),(1003,.gone)] [5,4]:=by
 refine Spec.of tabOk Try.func61 rfl Try.ntmps61 (by kernel_rfl) rfl rfl rfl fun Γ hn=>?_
 unfold run_machine_enter at h
 refine COk.snoc ?_
 refine gos hn ?_
 refine gos hn ?_
 obtain ⟨x1,hx2,h⟩:=bindM h
 refine idxM hx2 ?_
 obtain ⟨x3,hx4,h⟩:=bindM h
 refine idxM hx4 ?_
 refine COk.seqQ fun _ A0 _ R0=>?_
 refine kp [(0,_),(1,_),(2,_),(4,_),(8,_),(10,_)] [(8,_),(1000,_),(1001,_),(1003,_)] ?_
 refine gos hn ?_
 refine lenM (fun _=>?_)
 refine goc hn ?_
 refine bselM h (fun hb6 h=>?_) (fun hb6 h=>?_)
 ·refine gos hn ?_
  obtain ⟨r7,hr8,h⟩:=bindM h
  show CallOk Try.prog _ _ _ _
  refine cA (run_machine_fail_c1_2_ok N (⟨(⟨a0.w.classes,a0.w.heap,a0.w.epoch⟩:Wd),a0.fuel,a0.sends,a0.turns,a0.frames,a0.back,a0.err⟩:TMachine) gl gq (8:Int) hgl hgq r7 hr8) ?_
  refine COk.gh (Gh.reidD 1000 6 1003 501 502 rfl rfl rfl rfl rfl rfl rfl rfl rfl rfl rfl rfl) (fun _=>?_)
  refine got hn ?_
  refine R0 _ _ ?_
  obtain rfl:=Option.some.inj h
  exact ⟨[(4,501),(5,502)],_,fm⟩
 refine gok hn ?_
 refine A0 _ _ ?_
 refine COk.seqQ fun _ A1 _ R1=>?_
 refine gos hn ?_
 refine goc hn ?_
 refine bselM h (fun hb9 h=>?_) (fun hb9 h=>?_)
 ·refine COk.seqQ fun _ A2 _ R2=>?_
  refine kp [(0,_),(4,_),(8,_),(10,_)] [(8,_),(1000,_),(1001,_),(1003,_)] ?_
  refine gos hn ?_
  obtain ⟨r10,hr11,h⟩:=bindM h
  show CallOk Try.prog _ _ _ _
  refine cA (run_machine_count_c1_2_ok N (⟨(⟨a0.w.classes,a0.w.heap,a0.w.epoch⟩:Wd),a0.fuel,a0.sends,a0.turns,a0.frames,a0.back,a0.err⟩:TMachine) gl gq false hgl hgq r10 hr11) ?_
  refine goc hn ?_
  refine bselM h (fun hb12 h=>?_) (fun hb12 h=>?_)
  ·refine COk.gh (Gh.reidD 1000 6 1003 503 504 rfl rfl rfl rfl rfl rfl rfl rfl rfl rfl rfl rfl) (fun _=>?_)
   refine got hn ?_
   refine R2 _ _ ?_
   refine R1 _ _ ?_
   obtain rfl:=Option.some.inj h
   exact ⟨[(4,503),(5,504)],_,fm⟩
  refine gok hn ?_
  refine A2 _ _ ?_
  refine COk.seqQ fun _ A3 _ _=>?_
  refine god hn (by kernel_rfl) ?_
  obtain ⟨x13,hx14,h⟩:=bindM h
  refine idxM hx14 ?_
  obtain ⟨r15,hr16,h⟩:=bindM h
  show CallOk Try.prog _ _ _ _
  refine cA (value_Prim_ok N x3.prim a3 x13 r15 hr16) ?_
  refine A3 _ _ ?_
  refine COk.seqQ fun _ A4 _ R4=>?_
  refine kp [(0,_),(11,_),(12,_)] [(11,_),(1000,_),(1001,_),(1003,_)] ?_
  refine gos hn ?_
  refine goc hn ?_
  refine bselM h (fun hb17 h=>?_) (fun hb17 h=>?_)
  ·refine gos hn ?_
   obtain ⟨r18,hr19,h⟩:=bindM h
   show CallOk Try.prog _ _ _ _
   refine cA (run_machine_fail_c1_2_ok N (⟨(⟨a0.w.classes,a0.w.heap,a0.w.epoch⟩:Wd),r10.2.fuel,r10.2.sends,r10.2.turns,a0.frames,r10.2.back,r10.2.err⟩:TMachine) gl gq r15.2 hgl hgq r18 hr19) ?_
   refine COk.gh (Gh.reidD 1000 6 1003 505 506 rfl rfl rfl rfl rfl rfl rfl rfl rfl rfl rfl rfl) (fun _=>?_)
   refine got hn ?_
   refine R4 _ _ ?_
   refine R1 _ _ ?_
   obtain rfl:=Option.some.inj h
   exact ⟨[(4,505),(5,506)],_,fm⟩
  refine gok hn ?_
  refine A4 _ _ ?_
  refine gos hn ?_
  obtain ⟨r20,hr21,h⟩:=bindM h
  show CallOk Try.prog _ _ _ _
  refine cA ((run_machine_give_c1_2_ok N (⟨(⟨a0.w.classes,a0.w.heap,a0.w.epoch⟩:Wd),r10.2.fuel,r10.2.sends,r10.2.turns,a0.frames,r10.2.back,r10.2.err⟩:TMachine) gl gq r15.1 hgl hgq r20 hr21).sw 5 507) ?_
  refine COk.gh (Gh.reidD 1000 6 1003 508 509 rfl rfl rfl rfl rfl rfl rfl rfl rfl rfl rfl rfl) (fun _=>?_)
  refine got hn ?_
  refine R1 _ _ ?_
  obtain rfl:=Option.some.inj h
  exact ⟨[(4,508),(5,509)],_,fm⟩
 refine gok hn ?_
 refine A1 _ _ ?_
 refine COk.seqQ fun _ A5 _ R5=>?_
 refine kp [(0,_),(1,_),(2,_),(4,_),(8,_),(10,_)] [(8,_),(1000,_),(1001,_),(1003,_)] ?_
 refine gos hn ?_
 obtain ⟨r22,hr23,h⟩:=bindM h
 show CallOk Try.prog _ _ _ _
 refine cA (run_machine_count_c1_2_ok N (⟨(⟨a0.w.classes,a0.w.heap,a0.w.epoch⟩:Wd),a0.fuel,a0.sends,a0.turns,a0.frames,a0.back,a0.err⟩:TMachine) gl gq true hgl hgq r22 hr23) ?_
 refine goc hn ?_
 refine bselM h (fun hb24 h=>?_) (fun hb24 h=>?_)
 ·refine COk.gh (Gh.reidD 1000 6 1003 510 511 rfl rfl rfl rfl rfl rfl rfl rfl rfl rfl rfl rfl) (fun _=>?_)
  refine got hn ?_
  refine R5 _ _ ?_
  obtain rfl:=Option.some.inj h
  exact ⟨[(4,510),(5,511)],_,fm⟩
 refine gok hn ?_
 refine A5 _ _ ?_
 refine COk.seqQ fun _ A6 _ _=>?_
 refine kp [(0,_),(1,_),(2,_),(4,_),(8,_),(10,_)] [(8,_),(1000,_),(1001,_),(1003,_)] ?_
 refine god hn (by kernel_rfl) ?_
 obtain ⟨r25,hr26,h⟩:=bindM h
 show CallOk Try.prog _ _ _ _
 refine cA ((slices_Clone_V_ok N a4 r25 hr26).sw 0 77) ?_
 obtain ⟨hg27,h⟩:=guardM h
 refine mkM (enc:=eV) (x:=(⟨(0:Int),(0:Int)⟩:V)) hg27 (by repeat (first|exact trivial|exact rfl|(refine And.intro ?_ ?_))) ?_
 refine A6 _ _ ?_
 refine COk.seqQ fun _ A7 _ _=>?_
 refine kp [(0,_),(1,_),(2,_),(13,_)] [(13,_),(77,_),(82,_),(1000,_),(1001,_),(1003,_)] ?_
 refine gos hn ?_
 obtain ⟨r28,hr29,h⟩:=bindM h
 show CallOk Try.prog _ _ _ _
 refine cA (hgq _ _ _ hr29) ?_
 refine gos hn ?_
 obtain ⟨o34,h33,h⟩:=bindM h
 refine jk (ι:={ s // o34=s }) hn (fun s=>[]) (fun s=>[(13,.box [.int a1,.int a2,.bool s.1.1,.sl 5 (List.map eIns s.1.2.1),.int a3.k,.int a3.n,.own 77,.own 99,.nilsl,.int (0:Int)] 160),(99,.row 2 (List.map eV s.1.2.2) 27)]) [(0,_),(13,_)] [(77,_),(1000,_),(1001,_),(1003,_)] (fun _ A8 _ _=>?_) ?_
 ·refine goc hn ?_
  refine bselM h33 (fun hb35 h33=>?_) (fun hb35 h33=>?_)
  ·refine kp [(0,_),(13,_),(14,_)] [(13,_),(14,_),(77,_),(82,_),(1000,_),(1001,_),(1003,_)] ?_
   refine god hn (by kernel_rfl) ?_
   obtain ⟨hg36,h33⟩:=guardM h33
   refine mkM (enc:=eV) (x:=(⟨(0:Int),(0:Int)⟩:V)) hg36 (by repeat (first|exact trivial|exact rfl|(refine And.intro ?_ ?_))) ?_
   refine A8 _ _ ?_
   exact jn ⟨_,sj h33⟩ []
  refine gok hn ?_
  refine A8 _ _ ?_
  exact jn ⟨_,sj h33⟩ [(99,82)]
 rintro ⟨⟨v30,v31,v32⟩,rfl⟩
 refine A7 _ _ ?_
 refine COk.fzAll 77 rfl ?_
 refine kp [(0,_),(13,_)] [(13,_),(99,_),(1000,_),(1001,_),(1003,_)] ?_
 refine god hn (by kernel_rfl) ?_
 refine Or.inl ?_
 refine Exists.intro [(7,(2,27)),(8,(2,27))] (Exists.intro (eTFrame (⟨a1,a2,v30,v31,a3,r25,v32,[],(0:Int)⟩:TFrame)) (Exists.intro [(99,.row 2 (List.map eV v32) 27)] (And.intro rfl (And.intro rfl (And.intro rfl (And.intro (by decide) (And.intro (by decide) (And.intro rfl (And.intro rfl ?_)))))))))
 obtain ⟨hg37,h⟩:=guardM h
 refine appD (l2:=[(⟨a1,a2,v30,v31,a3,r25,v32,[],(0:Int)⟩:TFrame)]) hg37 rfl rfl rfl rfl rfl (by decide) (by decide) ?_
 refine EOk.done ?_
 obtain rfl:=Option.some.inj h
 exact ⟨[(4,110),(5,810)],_,fm⟩

/- (*run.machine).send -/
set_option maxRecDepth 100000 in
set_option maxHeartbeats 8000000 in
theorem run_machine_send_c1_2_ok (N:Nat) (a0:TMachine) (gl:St→Int→ByteArray→Option (Int×Int)) (gq:Int→Int→Option (Fs×Bool)) (a1:Nat) (a2:Ins) (a3:Int) {Kl:Nat} {cl_0:List AV} (hgl:∀x0_ x1_ x2_ y_,gl x0_ x1_ x2_=some y_→Spec Try.prog Kl [] [.agg (eSt x0_),.int x1_,.str x2_,.fp cl_0] (.tup [.int y_.1,.int y_.2]) [] []) {Kq:Nat} {cq_0:List AV} {cq_1:List AV} (hgq:∀x0_ x1_ y_,gq x0_ x1_=some y_→Spec Try.prog Kq [] [.int x0_,.int x1_,.fp cq_0,.fp cq_1] (.tup [.agg (eFs y_.1),.bool y_.2]) [] []) (r:TMachine) (h:run_machine_send N a0 gl gq a1 a2 a3=some r):Spec Try.prog 93 [(1000,.box [.ptr 1001 0,.fn Kl [.fp cl_0],.fn Kq [.fp cq_0,.fp cq_1],.int a0.fuel,.int a0.sends,.int a0.turns,.own 1003,.int a0.back.k,.int a0.back.n,.int a0.err] 123),(1001,.box [.sl 4 (List.map eCl a0.w.classes),.own 1002,.int a0.w.epoch] 25),(1002,.deep 2 97 [(1,(2,27))] (List.map eOb a0.w.heap) [] 1004),(1003,.deep 10 160 [(7,(2,27)),(8,(2,27))] (List.map eTFrame a0.frames) [] 1005)] [.ptr 1000 0,.ep 1003 a1 10 0,.agg (eIns a2),.int a3] (.tup []) [(1000,.box [.ptr 1001 0,.fn Kl [.fp cl_0],.fn Kq [.fp cq_0,.fp cq_1],.int r.fuel,.int r.sends,.int r.turns,.own 4,.int r.back.k,.int r.back.n,.int r.err] 123),(1001,.box [.sl 4 (List.map eCl a0.w.classes),.own 1002,.int a0.w.epoch] 25),(1002,.deep 2 97 [(1,(2,27))] (List.map eOb a0.w.heap) [] 1004),(4,.deep 10 160 [(7,(2,27)),(8,(2,27))] (List.map eTFrame r.frames) [] 5),(5,.gone),(1003,.gone)] [5,4]:=by
 refine Spec.of tabOk Try.func93 rfl Try.ntmps93 (by kernel_rfl) rfl rfl rfl fun Γ hn=>?_
 unfold run_machine_send at h
 refine COk.snoc ?_
 refine gos hn ?_
 refine COk.seqQ fun _ A0 _ _=>?_
 obtain ⟨x1,hx2,h⟩:=bindM h
 refine COk.gh (Gh.detach 1003 501 502 a1 8 rfl rfl (atD hx2) rfl rfl rfl rfl rfl rfl rfl rfl) (fun _=>?_)
 refine kp [(0,_),(1,_),(3,_),(6,_)] [(6,_),(501,_),(502,_),(1000,_),(1001,_),(1002,_),(1003,_)] ?_
 refine god hn (by kernel_rfl) ?_
 refine holeD hx2 rfl rfl (by decide) rfl ?_
 refine lenM (fun _=>?_)
 refine Or.inr ?_
 refine A0 _ _ ?_
 refine COk.seqQ fun _ A1 _ _=>?_
 refine kp [(0,_),(1,_),(3,_),(6,_),(8,_)] [(6,_),(501,_),(502,_),(1000,_),(1001,_),(1002,_),(1003,_)] ?_
 refine god hn (by kernel_rfl) ?_
 refine holeD hx2 rfl rfl (by decide) rfl ?_
 obtain ⟨hg4,h⟩:=guardM h
 refine osrM hg4 rfl rfl ?_
 obtain ⟨r5,hr6,h⟩:=bindM h
 show CallOk Try.prog _ _ _ _
 refine cDf ((Spec.drop1 (slices_Clone_V_ok N (x1.stack.drop ((wr ((x1.stack.length:Int) - a2.a)).toNat)) r5 hr6)).sw 0 28) ⟨flatV _,trivial⟩ ?_
 refine holeD hx2 rfl rfl (by decide) rfl ?_
 refine Or.inr ?_
 obtain ⟨x7,hx8,h⟩:=bindM h
 refine ownM hx8 ?_
 refine ldM (nthO_some hx8).2 ?_
 refine A1 _ _ ?_
 refine COk.seqQ fun _ A2 _ _=>?_
 refine COk.gh (Gh.attach (l':=List.map eTFrame a0.frames) 1003 501 503 a1 8 rfl rfl rfl (atD hx2) rfl rfl (setSelfD hx2 rfl) rfl rfl rfl rfl rfl rfl) (fun _=>?_)
 refine kp [(0,_),(1,_),(3,_),(6,_),(8,_),(9,_),(10,_)] [(6,_),(10,_),(28,_),(503,_),(1000,_),(1001,_),(1002,_),(1003,_)] ?_
 refine god hn (by kernel_rfl) ?_
 refine ldM hx2 ?_
 refine ldM hx2 ?_
 obtain ⟨x9,hx10,h⟩:=bindM h
 refine idxM hx10 ?_
 refine ldM hx2 ?_
 obtain ⟨x11,hx12,h⟩:=bindM h
 refine idxM hx12 ?_
 refine A2 _ _ ?_
 refine COk.seqQ fun _ A3 _ _=>?_
 refine kp [(0,_),(1,_),(6,_),(8,_),(9,_),(10,_),(11,_)] [(6,_),(10,_),(11,_),(28,_),(503,_),(1000,_),(1001,_),(1002,_),(1003,_)] ?_
 refine gos hn ?_
 refine ldM hx2 ?_
 obtain ⟨o15,h14,h⟩:=bindM h
 refine jk (ι:={ s // o15=s }) hn (fun s=>[]) (fun s=>[(11,.box [.int x1.class_,.str x11.name,.int s.1] 56)]) [(0,_),(1,_),(6,_),(8,_),(9,_),(10,_),(11,_)] [(6,_),(10,_),(28,_),(503,_),(1000,_),(1001,_),(1002,_),(1003,_)] (fun _ A4 _ _=>?_) ?_
 ·refine goc hn ?_
  refine bselM h14 (fun hb16 h14=>?_) (fun hb16 h14=>?_)
  ·refine gor hn ?_
   refine A4 _ _ ?_
   exact jn ⟨_,sj h14⟩ []
  refine gok hn ?_
  refine A4 _ _ ?_
  exact jn ⟨_,sj h14⟩ []
 rintro ⟨v13,hv_⟩
 replace hv_:=hv_.symm
 subst hv_
 refine A3 _ _ ?_
 refine COk.seqQ fun _ A5 _ _=>?_
 refine kp [(0,_),(1,_),(6,_),(8,_),(9,_),(10,_),(11,_)] [(6,_),(10,_),(11,_),(28,_),(503,_),(1000,_),(1001,_),(1002,_),(1003,_)] ?_
 refine god hn (by kernel_rfl) ?_
 obtain ⟨r17,hr18,h⟩:=bindM h
 show CallOk Try.prog _ _ _ _
 refine cD (value_Class_ok N a0.w.heap x7 r17 hr18) ?_
 obtain ⟨r19,hr20,h⟩:=bindM h
 show CallOk Try.prog _ _ _ _
 refine cA (hgl _ _ _ _ hr20) ?_
 refine A5 _ _ ?_
 refine COk.seqQ fun _ A6 _ R6=>?_
 refine kp [(0,_),(1,_),(8,_),(9,_),(10,_),(12,_),(13,_)] [(10,_),(28,_),(503,_),(1000,_),(1001,_),(1002,_),(1003,_)] ?_
 refine gos hn ?_
 refine goc hn ?_
 refine bselM h (fun hb21 h=>?_) (fun hb21 h=>?_)
 ·refine gos hn ?_
  obtain ⟨r22,hr23,h⟩:=bindM h
  show CallOk Try.prog _ _ _ _
  refine cA (run_machine_fail_c1_2_ok N (⟨(⟨a0.w.classes,a0.w.heap,a0.w.epoch⟩:Wd),a0.fuel,a0.sends,a0.turns,a0.frames,a0.back,a0.err⟩:TMachine) gl gq (10:Int) hgl hgq r22 hr23) ?_
  refine COk.gh (Gh.reidD 1000 6 1003 504 505 rfl rfl rfl rfl rfl rfl rfl rfl rfl rfl rfl rfl) (fun _=>?_)
  refine got hn ?_
  refine R6 _ _ ?_
  obtain rfl:=Option.some.inj h
  exact ⟨[(4,504),(5,505)],_,fm⟩
 refine gok hn ?_
 refine A6 _ _ ?_
 refine COk.gh (Gh.detach 1003 506 507 a1 8 rfl rfl (atD hx2) rfl rfl rfl rfl rfl rfl rfl rfl) (fun _=>?_)
 refine kp [(0,_),(1,_),(8,_),(9,_),(10,_),(12,_),(13,_)] [(10,_),(28,_),(506,_),(507,_),(1000,_),(1001,_),(1002,_),(1003,_)] ?_
 refine gos hn ?_
 refine holeD hx2 rfl rfl (by decide) rfl ?_
 refine Or.inr ?_
 obtain ⟨hg24,h⟩:=guardM h
 refine takeM hg24 rfl rfl ?_
 refine holeSD hx2 rfl rfl (by decide) ?_
 refine COk.gh (Gh.attach (l':=List.map eTFrame (a0.frames.set a1 (⟨x1.class_,x1.method,x1.fast,x1.code,x1.self_,x1.args,x1.temps,(x1.stack.take (wr ((wr ((x1.stack.length:Int) - a2.a)) - (1:Int))).toNat),x1.at_⟩:TFrame))) 1003 102 508 a1 8 rfl rfl rfl (atD hx2) rfl rfl (setD rfl) rfl rfl rfl rfl rfl rfl) (fun _=>?_)
 refine kp [(0,_),(1,_),(9,_),(10,_),(12,_),(13,_)] [(10,_),(28,_),(508,_),(1000,_),(1001,_),(1002,_),(1003,_)] ?_
 refine gor hn ?_
 obtain ⟨r25,hr26,h⟩:=bindM h
 show CallOk Try.prog _ _ _ _
 refine cF ((((run_machine_enter_c1_2_ok N (⟨(⟨a0.w.classes,a0.w.heap,a0.w.epoch⟩:Wd),a0.fuel,a0.sends,a0.turns,(a0.frames.set a1 (⟨x1.class_,x1.method,x1.fast,x1.code,x1.self_,x1.args,x1.temps,(x1.stack.take (wr ((wr ((x1.stack.length:Int) - a2.a)) - (1:Int))).toNat),x1.at_⟩:TFrame)),a0.back,a0.err⟩:TMachine) gl gq r19.1 r19.2 x7 r5 hgl hgq r25 hr26).sw 1005 508).sw 5 509).sw 4 510) ?_
 refine EOk.done ?_
 obtain rfl:=Option.some.inj h
 exact ⟨[(4,510),(5,509)],_,fm⟩

/- (*run.machine).jump -/
set_option maxRecDepth 100000 in
set_option maxHeartbeats 8000000 in
theorem run_machine_jump_c1_2_ok (N:Nat) (a0:TMachine) (gl:St→Int→ByteArray→Option (Int×Int)) (gq:Int→Int→Option (Fs×Bool)) (a1:Nat) (a2:Int) {Kl:Nat} {cl_0:List AV} (hgl:∀x0_ x1_ x2_ y_,gl x0_ x1_ x2_=some y_→Spec Try.prog Kl [] [.agg (eSt x0_),.int x1_,.str x2_,.fp cl_0] (.tup [.int y_.1,.int y_.2]) [] []) {Kq:Nat} {cq_0:List AV} {cq_1:List AV} (hgq:∀x0_ x1_ y_,gq x0_ x1_=some y_→Spec Try.prog Kq [] [.int x0_,.int x1_,.fp cq_0,.fp cq_1] (.tup [.agg (eFs y_.1),.bool y_.2]) [] []) (r:TMachine) (h:run_machine_jump N a0 gl gq a1 a2=some r):Spec Try.prog 94 [(1000,.box [.ptr 1001 0,.fn Kl [.fp cl_0],.fn Kq [.fp cq_0,.fp cq_1],.int a0.fuel,.int a0.sends,.int a0.turns,.own 1003,.int a0.back.k,.int a0.back.n,.int a0.err] 123),(1003,.deep 10 160 [(7,(2,27)),(8,(2,27))] (List.map eTFrame a0.frames) [] 1005)] [.ptr 1000 0,.ep 1003 a1 10 0,.int a2] (.tup []) [(1000,.box [.ptr 1001 0,.fn Kl [.fp cl_0],.fn Kq [.fp cq_0,.fp cq_1],.int r.fuel,.int r.sends,.int r.turns,.own 1003,.int r.back.k,.int r.back.n,.int r.err] 123),(1003,.deep 10 160 [(7,(2,27)),(8,(2,27))] (List.map eTFrame r.frames) [] 5),(5,.gone)] [5]:=by
 refine Spec.of tabOk Try.func94 rfl Try.ntmps94 (by kernel_rfl) rfl rfl rfl fun Γ hn=>?_
 unfold run_machine_jump at h
 refine COk.snoc ?_
 refine COk.seqQ fun _ A0 _ _=>?_
 refine gos hn ?_
 obtain ⟨x1,hx2,h⟩:=bindM h
 refine ldM hx2 ?_
 obtain ⟨o10,h9,h⟩:=bindM h
 refine jk (ι:={ s // o10=s }) hn (fun s=>[]) (fun s=>[(1000,.box [.ptr 1001 0,.fn Kl [.fp cl_0],.fn Kq [.fp cq_0,.fp cq_1],.int s.1.1,.int s.1.2.1,.int s.1.2.2.1,.own 1003,.int s.1.2.2.2.1,.int s.1.2.2.2.2.1,.int s.1.2.2.2.2.2] 123)]) [(0,_),(1,_),(2,_)] [(1003,_)] (fun _ A1 _ _=>?_) ?_
 ·refine goc hn ?_
  refine bselM h9 (fun hb11 h9=>?_) (fun hb11 h9=>?_)
  ·refine gos hn ?_
   refine Or.inr ?_
   refine gos hn ?_
   obtain ⟨o19,h18,h9⟩:=bindM h9
   refine jk (ι:={ s // o19=s }) hn (fun s=>[]) (fun s=>[(1000,.box [.ptr 1001 0,.fn Kl [.fp cl_0],.fn Kq [.fp cq_0,.fp cq_1],.int s.1.1,.int s.1.2.1,.int s.1.2.2.1,.own 1003,.int s.1.2.2.2.1,.int s.1.2.2.2.2.1,.int s.1.2.2.2.2.2] 123)]) [(0,_),(1,_),(2,_)] [(1003,_)] (fun _ A2 _ _=>?_) ?_
   ·refine goc hn ?_
    refine bselM h18 (fun hb20 h18=>?_) (fun hb20 h18=>?_)
    ·refine kp [(0,_),(1,_),(2,_)] [(1000,_),(1003,_)] ?_
     refine gor hn ?_
     obtain ⟨r21,hr22,h18⟩:=bindM h18
     show CallOk Try.prog _ _ _ _
     refine cA (run_machine_fail_c1_2_ok N (⟨(⟨a0.w.classes,a0.w.heap,a0.w.epoch⟩:Wd),a0.fuel,a0.sends,(wr (a0.turns+(1:Int))),a0.frames,a0.back,a0.err⟩:TMachine) gl gq (16:Int) hgl hgq r21 hr22) ?_
     refine A2 _ _ ?_
     exact jn ⟨_,sj h18⟩ []
    refine gok hn ?_
    refine A2 _ _ ?_
    exact jn ⟨_,sj h18⟩ []
   rintro ⟨⟨v12,v13,v14,v15,v16,v17⟩,rfl⟩
   refine A1 _ _ ?_
   exact jn ⟨_,sj h9⟩ []
  refine gok hn ?_
  refine A1 _ _ ?_
  exact jn ⟨_,sj h9⟩ []
 rintro ⟨⟨v3,v4,v5,v6,v7,v8⟩,rfl⟩
 refine A0 _ _ ?_
 refine gor hn ?_
 refine stD hx2 rfl rfl rfl ?_
 refine Exists.intro (List.map eTFrame (a0.frames.set a1 (⟨x1.class_,x1.method,x1.fast,x1.code,x1.self_,x1.args,x1.temps,x1.stack,a2⟩:TFrame))) (And.intro (setD rfl) ?_)
 refine EOk.gh (Gh.resh 1003 501 rfl rfl rfl rfl) (fun _=>?_)
 refine EOk.done ?_
 obtain rfl:=Option.some.inj h
 exact ⟨[(5,501)],_,fm⟩

/- (*run.machine).guard -/
set_option maxRecDepth 100000 in
set_option maxHeartbeats 8000000 in
theorem run_machine_guard_c1_2_ok (N:Nat) (a0:TMachine) (gl:St→Int→ByteArray→Option (Int×Int)) (gq:Int→Int→Option (Fs×Bool)) (a1:Nat) (a2:Ins) {Kl:Nat} {cl_0:List AV} (hgl:∀x0_ x1_ x2_ y_,gl x0_ x1_ x2_=some y_→Spec Try.prog Kl [] [.agg (eSt x0_),.int x1_,.str x2_,.fp cl_0] (.tup [.int y_.1,.int y_.2]) [] []) {Kq:Nat} {cq_0:List AV} {cq_1:List AV} (hgq:∀x0_ x1_ y_,gq x0_ x1_=some y_→Spec Try.prog Kq [] [.int x0_,.int x1_,.fp cq_0,.fp cq_1] (.tup [.agg (eFs y_.1),.bool y_.2]) [] []) (r:TMachine) (h:run_machine_guard N a0 gl gq a1 a2=some r):Spec Try.prog 96 [(1000,.box [.ptr 1001 0,.fn Kl [.fp cl_0],.fn Kq [.fp cq_0,.fp cq_1],.int a0.fuel,.int a0.sends,.int a0.turns,.own 1003,.int a0.back.k,.int a0.back.n,.int a0.err] 123),(1001,.box [.sl 4 (List.map eCl a0.w.classes),.own 1002,.int a0.w.epoch] 25),(1002,.deep 2 97 [(1,(2,27))] (List.map eOb a0.w.heap) [] 1004),(1003,.deep 10 160 [(7,(2,27)),(8,(2,27))] (List.map eTFrame a0.frames) [] 1005)] [.ptr 1000 0,.ep 1003 a1 10 0,.agg (eIns a2)] (.tup []) [(1000,.box [.ptr 1001 0,.fn Kl [.fp cl_0],.fn Kq [.fp cq_0,.fp cq_1],.int r.fuel,.int r.sends,.int r.turns,.own 1003,.int r.back.k,.int r.back.n,.int r.err] 123),(1001,.box [.sl 4 (List.map eCl a0.w.classes),.own 1002,.int a0.w.epoch] 25),(1002,.deep 2 97 [(1,(2,27))] (List.map eOb a0.w.heap) [] 1004),(1003,.deep 10 160 [(7,(2,27)),(8,(2,27))] (List.map eTFrame r.frames) [] 5),(5,.gone)] [5]:=by
 refine Spec.of tabOk Try.func96 rfl Try.ntmps96 (by kernel_rfl) rfl rfl rfl fun Γ hn=>?_
 unfold run_machine_guard at h
 refine COk.snoc ?_
 refine gos hn ?_
 refine COk.seqQ fun _ A0 _ R0=>?_
 refine COk.seqQ fun _ A1 _ _=>?_
 obtain ⟨x1,hx2,h⟩:=bindM h
 refine COk.gh (Gh.detach 1003 501 502 a1 8 rfl rfl (atD hx2) rfl rfl rfl rfl rfl rfl rfl rfl) (fun _=>?_)
 refine kp [(0,_),(1,_),(5,_)] [(5,_),(501,_),(502,_),(1000,_),(1001,_),(1002,_),(1003,_)] ?_
 refine god hn (by kernel_rfl) ?_
 refine holeD hx2 rfl rfl (by decide) rfl ?_
 refine holeD hx2 rfl rfl (by decide) rfl ?_
 refine lenM (fun _=>?_)
 refine Or.inr ?_
 refine Or.inr ?_
 obtain ⟨x4,hx5,h⟩:=bindM h
 refine ownM hx5 ?_
 refine ldM (nthO_some hx5).2 ?_
 obtain ⟨r6,hr7,h⟩:=bindM h
 show CallOk Try.prog _ _ _ _
 refine cD (value_Class_ok N a0.w.heap x4 r6 hr7) ?_
 refine A1 _ _ ?_
 refine goc hn ?_
 refine bselM h (fun hb8 h=>?_) (fun hb8 h=>?_)
 ·refine COk.gh (Gh.attach (l':=List.map eTFrame a0.frames) 1003 501 503 a1 8 rfl rfl rfl (atD hx2) rfl rfl (setSelfD hx2 rfl) rfl rfl rfl rfl rfl rfl) (fun _=>?_)
  refine got hn ?_
  refine R0 _ _ ?_
  obtain rfl:=Option.some.inj h
  exact ⟨[(5,503)],_,fm⟩
 refine gok hn ?_
 refine A0 _ _ ?_
 refine COk.seqQ fun _ A2 _ _=>?_
 refine COk.gh (Gh.attach (l':=List.map eTFrame a0.frames) 1003 501 504 a1 8 rfl rfl rfl (atD hx2) rfl rfl (setSelfD hx2 rfl) rfl rfl rfl rfl rfl rfl) (fun _=>?_)
 refine kp [(0,_),(1,_),(5,_)] [(5,_),(504,_),(1000,_),(1001,_),(1002,_),(1003,_)] ?_
 refine god hn (by kernel_rfl) ?_
 refine ldM hx2 ?_
 obtain ⟨x9,hx10,h⟩:=bindM h
 refine idxM hx10 ?_
 refine ldM hx2 ?_
 obtain ⟨x11,hx12,h⟩:=bindM h
 refine idxM hx12 ?_
 refine A2 _ _ ?_
 refine COk.gh (Gh.detach 1003 505 506 a1 7 rfl rfl (atD hx2) rfl rfl rfl rfl rfl rfl rfl rfl) (fun _=>?_)
 refine kp [(0,_),(1,_),(5,_),(6,_)] [(5,_),(505,_),(506,_),(1000,_),(1001,_),(1002,_),(1003,_)] ?_
 refine god hn (by kernel_rfl) ?_
 refine holeD hx2 rfl rfl (by decide) rfl ?_
 obtain ⟨hg13,h⟩:=guardM h
 refine takeM hg13 rfl rfl ?_
 refine stD hx2 rfl rfl rfl ?_
 refine Exists.intro (List.map eTFrame (a0.frames.set a1 (⟨x1.class_,x1.method,false,x1.code,x1.self_,x1.args,x1.temps,x1.stack,x1.at_⟩:TFrame))) (And.intro (setD rfl) ?_)
 refine stD (setAt hx2) rfl rfl rfl ?_
 refine Exists.intro (List.map eTFrame ((a0.frames.set a1 (⟨x1.class_,x1.method,false,x1.code,x1.self_,x1.args,x1.temps,x1.stack,x1.at_⟩:TFrame)).set a1 (⟨x1.class_,x1.method,false,x11.code,x1.self_,x1.args,x1.temps,x1.stack,x1.at_⟩:TFrame))) (And.intro (setD rfl) ?_)
 refine holeSD (setAt (setAt hx2)) rfl rfl (by decide) ?_
 refine stD (setAt (setAt hx2)) rfl rfl rfl ?_
 refine Exists.intro (List.map eTFrame (((a0.frames.set a1 (⟨x1.class_,x1.method,false,x1.code,x1.self_,x1.args,x1.temps,x1.stack,x1.at_⟩:TFrame)).set a1 (⟨x1.class_,x1.method,false,x11.code,x1.self_,x1.args,x1.temps,x1.stack,x1.at_⟩:TFrame)).set a1 (⟨x1.class_,x1.method,false,x11.code,x1.self_,x1.args,x1.temps,x1.stack,a2.c⟩:TFrame))) (And.intro (setD rfl) ?_)
 refine EOk.gh (Gh.attach (l':=List.map eTFrame ((((a0.frames.set a1 (⟨x1.class_,x1.method,false,x1.code,x1.self_,x1.args,x1.temps,x1.stack,x1.at_⟩:TFrame)).set a1 (⟨x1.class_,x1.method,false,x11.code,x1.self_,x1.args,x1.temps,x1.stack,x1.at_⟩:TFrame)).set a1 (⟨x1.class_,x1.method,false,x11.code,x1.self_,x1.args,x1.temps,x1.stack,a2.c⟩:TFrame)).set a1 (⟨x1.class_,x1.method,false,x11.code,x1.self_,x1.args,(x1.temps.take x11.temps.toNat),x1.stack,a2.c⟩:TFrame))) 1003 68 507 a1 7 rfl rfl rfl (atD (setAt (setAt (setAt hx2)))) rfl rfl (setD rfl) rfl rfl rfl rfl rfl rfl) (fun _=>?_)
 refine EOk.done ?_
 obtain rfl:=Option.some.inj h
 exact ⟨[(5,507)],_,fm⟩

/- (*run.machine).put -/
set_option maxRecDepth 100000 in
set_option maxHeartbeats 8000000 in
theorem run_machine_put_c1_2_ok (N:Nat) (a0:TMachine) (gl:St→Int→ByteArray→Option (Int×Int)) (gq:Int→Int→Option (Fs×Bool)) (a1:V) (a2:Int) (a3:V) {Kl:Nat} {cl_0:List AV} (hgl:∀x0_ x1_ x2_ y_,gl x0_ x1_ x2_=some y_→Spec Try.prog Kl [] [.agg (eSt x0_),.int x1_,.str x2_,.fp cl_0] (.tup [.int y_.1,.int y_.2]) [] []) {Kq:Nat} {cq_0:List AV} {cq_1:List AV} (hgq:∀x0_ x1_ y_,gq x0_ x1_=some y_→Spec Try.prog Kq [] [.int x0_,.int x1_,.fp cq_0,.fp cq_1] (.tup [.agg (eFs y_.1),.bool y_.2]) [] []) (r:TMachine) (h:run_machine_put N a0 gl gq a1 a2 a3=some r):Spec Try.prog 119 [(1000,.box [.ptr 1001 0,.fn Kl [.fp cl_0],.fn Kq [.fp cq_0,.fp cq_1],.int a0.fuel,.int a0.sends,.int a0.turns,.own 1003,.int a0.back.k,.int a0.back.n,.int a0.err] 123),(1001,.box [.sl 4 (List.map eCl a0.w.classes),.own 1002,.int a0.w.epoch] 25),(1002,.deep 2 97 [(1,(2,27))] (List.map eOb a0.w.heap) [] 1004)] [.ptr 1000 0,.agg (eV a1),.int a2,.agg (eV a3)] (.tup []) [(1000,.box [.ptr 1001 0,.fn Kl [.fp cl_0],.fn Kq [.fp cq_0,.fp cq_1],.int r.fuel,.int r.sends,.int r.turns,.own 1003,.int r.back.k,.int r.back.n,.int r.err] 123),(1001,.box [.sl 4 (List.map eCl a0.w.classes),.own 1002,.int a0.w.epoch] 25),(1002,.deep 2 97 [(1,(2,27))] (List.map eOb r.w.heap) [] 3),(3,.gone)] [3]:=by
 refine Spec.of tabOk Try.func119 rfl Try.ntmps119 (by kernel_rfl) rfl rfl rfl fun Γ hn=>?_
 unfold run_machine_put at h
 refine COk.snoc ?_
 refine gos hn ?_
 refine COk.seqQ fun _ A0 _ _=>?_
 obtain ⟨o3,h2,h⟩:=bindM h
 refine jk (ι:={ s // o3=s }) hn (fun s=>[(40,.bool s.1)]) (fun s=>[(501,.gone),(1002,.deep 2 97 [(1,(2,27))] (List.map eOb a0.w.heap) [] 501)]) [(0,_),(2,_),(5,_),(7,_)] [(5,_),(7,_),(1000,_),(1001,_)] (fun _ A1 _ _=>?_) ?_
 ·rcases optM h2 with ⟨hx5,h2⟩|⟨x4,hx5,h2⟩
  ·refine kp [(0,_),(2,_),(5,_),(7,_)] [(5,_),(7,_),(1000,_),(1001,_),(1002,_)] ?_
   refine god hn (by kernel_rfl) ?_
   refine bselM h2 (fun hb6 h2=>?_) (fun hb6 h2=>?_)
   ·refine bselT hb6 ?_
    refine bselT hb6 ?_
    refine bselT hb6 ?_
    refine bselT hb6 ?_
    refine bselT hb6 ?_
    refine bselT hb6 ?_
    refine bselT hb6 ?_
    refine bselT hb6 ?_
    refine bselT hb6 ?_
    refine lenM (fun _=>?_)
    refine bselT hb6 ?_
    refine bselT hb6 ?_
    refine bselM h2 (fun hb8 h2=>?_) (fun hb8 h2=>?_)
    ·refine bselT hb8 ?_
     refine bselT hb8 ?_
     refine bselT hb8 ?_
     refine bselT hb8 ?_
     refine bselT hb8 ?_
     refine bselT hb8 ?_
     refine bselT hb8 ?_
     refine bselT hb8 ?_
     refine bselT hb8 ?_
     refine bselT hb8 ?_
     cases h2
    refine bselF hb8 ?_
    refine bselF hb8 ?_
    refine bselF hb8 ?_
    refine bselF hb8 ?_
    refine bselF hb8 ?_
    refine bselF hb8 ?_
    refine bselF hb8 ?_
    refine bselF hb8 ?_
    refine bselF hb8 ?_
    refine bselF hb8 ?_
    refine bselF hb8 ?_
    refine bselF hb8 ?_
    refine bselF hb8 ?_
    refine bselF hb8 ?_
    refine bselF hb8 ?_
    refine A1 _ _ ?_
    refine EOk.gh (Gh.resh 1002 501 rfl rfl rfl rfl) (fun _=>?_)
    exact jn ⟨_,sj h2⟩ []
   refine bselF hb6 ?_
   refine bselF hb6 ?_
   refine bselF hb6 ?_
   refine bselF hb6 ?_
   refine bselF hb6 ?_
   refine bselF hb6 ?_
   refine bselF hb6 ?_
   refine bselF hb6 ?_
   refine bselF hb6 ?_
   refine bselF hb6 ?_
   refine bselF hb6 ?_
   refine A1 _ _ ?_
   refine EOk.gh (Gh.resh 1002 502 rfl rfl rfl rfl) (fun _=>?_)
   exact jn ⟨_,sj h2⟩ [(501,502)]
  refine COk.gh (Gh.detach 1002 503 504 a1.n.toNat 1 rfl rfl (atD hx5) rfl rfl rfl rfl rfl rfl rfl rfl) (fun _=>?_)
  refine kp [(0,_),(2,_),(5,_),(7,_)] [(5,_),(7,_),(503,_),(504,_),(1000,_),(1001,_),(1002,_)] ?_
  refine god hn (by kernel_rfl) ?_
  refine bselM h2 (fun hb9 h2=>?_) (fun hb9 h2=>?_)
  ·refine bselT hb9 ?_
   refine bselT hb9 ?_
   refine bselT hb9 ?_
   refine bselT hb9 ?_
   refine bselT hb9 ?_
   refine bselT hb9 ?_
   refine bselT hb9 ?_
   refine bselT hb9 ?_
   refine bselT hb9 ?_
   refine lenM (fun _=>?_)
   refine bselT hb9 ?_
   refine bselT hb9 ?_
   refine bselM h2 (fun hb11 h2=>?_) (fun hb11 h2=>?_)
   ·refine bselT hb11 ?_
    refine bselT hb11 ?_
    refine bselT hb11 ?_
    refine bselT hb11 ?_
    refine bselT hb11 ?_
    refine bselT hb11 ?_
    refine bselT hb11 ?_
    refine bselT hb11 ?_
    refine bselT hb11 ?_
    refine bselT hb11 ?_
    obtain ⟨x12,hx13,h2⟩:=bindM h2
    refine ixD hx13 rfl rfl ?_
    refine bselT hb11 ?_
    refine bselT hb11 ?_
    refine holeD hx5 rfl rfl (by decide) rfl ?_
    refine bselT hb11 ?_
    refine lenM (fun _=>?_)
    refine bselT hb11 ?_
    refine bselT hb11 ?_
    refine A1 _ _ ?_
    refine EOk.gh (Gh.attach (l':=List.map eOb a0.w.heap) 1002 503 505 a1.n.toNat 1 rfl rfl rfl (atD hx5) rfl rfl (setSelfD hx5 rfl) rfl rfl rfl rfl rfl rfl) (fun _=>?_)
    exact jn ⟨_,sj h2⟩ [(501,505)]
   refine bselF hb11 ?_
   refine bselF hb11 ?_
   refine bselF hb11 ?_
   refine bselF hb11 ?_
   refine bselF hb11 ?_
   refine bselF hb11 ?_
   refine bselF hb11 ?_
   refine bselF hb11 ?_
   refine bselF hb11 ?_
   refine bselF hb11 ?_
   refine bselF hb11 ?_
   refine bselF hb11 ?_
   refine bselF hb11 ?_
   refine bselF hb11 ?_
   refine bselF hb11 ?_
   refine A1 _ _ ?_
   refine EOk.gh (Gh.attach (l':=List.map eOb a0.w.heap) 1002 503 506 a1.n.toNat 1 rfl rfl rfl (atD hx5) rfl rfl (setSelfD hx5 rfl) rfl rfl rfl rfl rfl rfl) (fun _=>?_)
   exact jn ⟨_,sj h2⟩ [(501,506)]
  refine bselF hb9 ?_
  refine bselF hb9 ?_
  refine bselF hb9 ?_
  refine bselF hb9 ?_
  refine bselF hb9 ?_
  refine bselF hb9 ?_
  refine bselF hb9 ?_
  refine bselF hb9 ?_
  refine bselF hb9 ?_
  refine bselF hb9 ?_
  refine bselF hb9 ?_
  refine A1 _ _ ?_
  refine EOk.gh (Gh.attach (l':=List.map eOb a0.w.heap) 1002 503 507 a1.n.toNat 1 rfl rfl rfl (atD hx5) rfl rfl (setSelfD hx5 rfl) rfl rfl rfl rfl rfl rfl) (fun _=>?_)
  exact jn ⟨_,sj h2⟩ [(501,507)]
 rintro ⟨v1,hv_⟩
 replace hv_:=hv_.symm
 subst hv_
 refine A0 _ _ ?_
 obtain ⟨o17,h16,h⟩:=bindM h
 refine jk (ι:={ s // o17=s }) hn (fun s=>[]) (fun s=>[(508,.gone),(1002,.deep 2 97 [(1,(2,27))] (List.map eOb s.1) [] 508)]) [(0,_)] [(1000,_),(1001,_)] (fun _ A2 _ _=>?_) ?_
 ·refine goc hn ?_
  refine bselM h16 (fun hb18 h16=>?_) (fun hb18 h16=>?_)
  ·rcases optM h16 with ⟨hx20,h16⟩|⟨x19,hx20,h16⟩
   ·refine god hn (by kernel_rfl) ?_
    cases h16
   refine COk.gh (Gh.detach 1002 508 509 a1.n.toNat 1 rfl rfl (atD hx20) rfl rfl rfl rfl rfl rfl rfl rfl) (fun _=>?_)
   refine kp [(0,_),(2,_),(5,_),(7,_)] [(5,_),(7,_),(508,_),(509,_),(1000,_),(1001,_),(1002,_)] ?_
   refine god hn (by kernel_rfl) ?_
   obtain ⟨x21,hx22,h16⟩:=bindM h16
   refine ixD hx22 rfl rfl ?_
   refine holeD hx20 rfl rfl (by decide) rfl ?_
   obtain ⟨x23,hx24,h16⟩:=bindM h16
   refine ownM hx24 ?_
   refine ldM (nthO_some hx24).2 ?_
   refine Exists.intro (List.map eV (x19.slots.set a2.toNat a3)) (And.intro (leLs_set (nthO_some hx24).2 (by repeat (first|exact trivial|exact rfl|(refine And.intro ?_ ?_)))) ?_)
   refine A2 _ _ ?_
   refine EOk.gh (Gh.attach (l':=List.map eOb (a0.w.heap.set a1.n.toNat (⟨x19.cls,(x19.slots.set a2.toNat a3)⟩:Ob))) 1002 508 510 a1.n.toNat 1 rfl rfl rfl (atD hx20) rfl rfl (setD rfl) rfl rfl rfl rfl rfl rfl) (fun _=>?_)
   exact jn ⟨_,sj h16⟩ [(508,510)]
  refine gok hn ?_
  refine A2 _ _ ?_
  exact jn ⟨_,sj h16⟩ [(508,501)]
 rintro ⟨v15,hv_⟩
 replace hv_:=hv_.symm
 subst hv_
 refine EOk.done ?_
 obtain rfl:=Option.some.inj h
 exact ⟨[(3,508)],_,fm⟩

/- (*run.machine).move -/
set_option maxRecDepth 100000 in
set_option maxHeartbeats 8000000 in
theorem run_machine_move_c1_2_ok (N:Nat) (a0:TMachine) (gl:St→Int→ByteArray→Option (Int×Int)) (gq:Int→Int→Option (Fs×Bool)) (a1:Nat) (a2:Ins) {Kl:Nat} {cl_0:List AV} (hgl:∀x0_ x1_ x2_ y_,gl x0_ x1_ x2_=some y_→Spec Try.prog Kl [] [.agg (eSt x0_),.int x1_,.str x2_,.fp cl_0] (.tup [.int y_.1,.int y_.2]) [] []) {Kq:Nat} {cq_0:List AV} {cq_1:List AV} (hgq:∀x0_ x1_ y_,gq x0_ x1_=some y_→Spec Try.prog Kq [] [.int x0_,.int x1_,.fp cq_0,.fp cq_1] (.tup [.agg (eFs y_.1),.bool y_.2]) [] []) (r:TMachine) (h:run_machine_move N a0 gl gq a1 a2=some r):Spec Try.prog 97 [(1000,.box [.ptr 1001 0,.fn Kl [.fp cl_0],.fn Kq [.fp cq_0,.fp cq_1],.int a0.fuel,.int a0.sends,.int a0.turns,.own 1003,.int a0.back.k,.int a0.back.n,.int a0.err] 123),(1001,.box [.sl 4 (List.map eCl a0.w.classes),.own 1002,.int a0.w.epoch] 25),(1002,.deep 2 97 [(1,(2,27))] (List.map eOb a0.w.heap) [] 1004),(1003,.deep 10 160 [(7,(2,27)),(8,(2,27))] (List.map eTFrame a0.frames) [] 1005)] [.ptr 1000 0,.ep 1003 a1 10 0,.agg (eIns a2)] (.tup []) [(1000,.box [.ptr 1001 0,.fn Kl [.fp cl_0],.fn Kq [.fp cq_0,.fp cq_1],.int r.fuel,.int r.sends,.int r.turns,.own 1003,.int r.back.k,.int r.back.n,.int r.err] 123),(1001,.box [.sl 4 (List.map eCl r.w.classes),.own 2,.int r.w.epoch] 25),(2,.deep 2 97 [(1,(2,27))] (List.map eOb r.w.heap) [] 3),(3,.gone),(1002,.gone),(1003,.deep 10 160 [(7,(2,27)),(8,(2,27))] (List.map eTFrame r.frames) [] 5),(5,.gone)] [3,2,5]:=by
 refine Spec.of tabOk Try.func97 rfl Try.ntmps97 (by kernel_rfl) rfl rfl rfl fun Γ hn=>?_
 unfold run_machine_move at h
 refine COk.snoc ?_
 refine gos hn ?_
 refine gos hn ?_
 refine gos hn ?_
 obtain ⟨o10,h9,h⟩:=bindM h
 refine jk (ι:={ s // o10=Ctl.next s }) hn (fun s=>[]) (fun s=>[(186,.deep 2 97 [(1,(2,27))] (List.map eOb s.1.1) [] 518),(501,.gone),(518,.gone),(1000,.box [.ptr 1001 0,.fn Kl [.fp cl_0],.fn Kq [.fp cq_0,.fp cq_1],.int s.1.2.1,.int s.1.2.2.1,.int s.1.2.2.2.1,.own 1003,.int s.1.2.2.2.2.2.1,.int s.1.2.2.2.2.2.2.1,.int s.1.2.2.2.2.2.2.2] 123),(1001,.box [.sl 4 (List.map eCl a0.w.classes),.own 186,.int a0.w.epoch] 25),(1002,.gone),(1003,.deep 10 160 [(7,(2,27)),(8,(2,27))] (List.map eTFrame s.1.2.2.2.2.1) [] 501)]) [(0,_),(1,_)] [] (fun _ A0 _ R0=>?_) ?_
 ·refine COk.blkQ fun _ A1 _ _ R1=>?_
  refine gos hn ?_
  obtain ⟨o20,h19,h9⟩:=bindM h9
  refine jk (ι:={ s // o20=Ctl.next s }) hn (fun s=>[]) (fun s=>[(186,.deep 2 97 [(1,(2,27))] (List.map eOb s.1.1) [] 518),(501,.gone),(518,.gone),(1000,.box [.ptr 1001 0,.fn Kl [.fp cl_0],.fn Kq [.fp cq_0,.fp cq_1],.int s.1.2.1,.int s.1.2.2.1,.int s.1.2.2.2.1,.own 1003,.int s.1.2.2.2.2.2.1,.int s.1.2.2.2.2.2.2.1,.int s.1.2.2.2.2.2.2.2] 123),(1001,.box [.sl 4 (List.map eCl a0.w.classes),.own 186,.int a0.w.epoch] 25),(1002,.gone),(1003,.deep 10 160 [(7,(2,27)),(8,(2,27))] (List.map eTFrame s.1.2.2.2.2.1) [] 501)]) [(0,_),(1,_)] [] (fun _ A2 _ R2=>?_) ?_
  ·refine goc hn ?_
   refine bselM h19 (fun hb21 h19=>?_) (fun hb21 h19=>?_)
   ·refine gor hn ?_
    obtain ⟨x22,hx23,h19⟩:=bindM h19
    refine ldM hx23 ?_
    obtain ⟨r24,hr25,h19⟩:=bindM h19
    show CallOk Try.prog _ _ _ _
    refine cA ((run_machine_move_1_ok N x22.self_ a0.frames a1 r24 hr25).swl [(1016,4),(1019,1003),(1021,1005),(21,501)] rfl) ?_
    refine A2 _ _ ?_
    refine EOk.gh (Gh.reidD 1001 1 1002 502 503 rfl rfl rfl rfl rfl rfl rfl rfl rfl rfl rfl rfl) (fun _=>?_)
    exact jn ⟨_,sj h19⟩ [(186,502),(518,503)]
   refine gos hn ?_
   obtain ⟨o35,h34,h19⟩:=bindM h19
   refine jk (ι:={ s // o35=Ctl.next s }) hn (fun s=>[]) (fun s=>[(186,.deep 2 97 [(1,(2,27))] (List.map eOb s.1.1) [] 520),(504,.gone),(520,.gone),(1000,.box [.ptr 1001 0,.fn Kl [.fp cl_0],.fn Kq [.fp cq_0,.fp cq_1],.int s.1.2.1,.int s.1.2.2.1,.int s.1.2.2.2.1,.own 1003,.int s.1.2.2.2.2.2.1,.int s.1.2.2.2.2.2.2.1,.int s.1.2.2.2.2.2.2.2] 123),(1001,.box [.sl 4 (List.map eCl a0.w.classes),.own 186,.int a0.w.epoch] 25),(1002,.gone),(1003,.deep 10 160 [(7,(2,27)),(8,(2,27))] (List.map eTFrame s.1.2.2.2.2.1) [] 504)]) [(0,_),(1,_)] [] (fun _ A3 _ R3=>?_) ?_
   ·refine goc hn ?_
    refine bselM h34 (fun hb36 h34=>?_) (fun hb36 h34=>?_)
    ·refine god hn (by kernel_rfl) ?_
     obtain ⟨x37,hx38,h34⟩:=bindM h34
     refine ldM hx38 ?_
     obtain ⟨x39,hx40,h34⟩:=bindM h34
     refine idxM hx40 ?_
     obtain ⟨r41,hr42,h34⟩:=bindM h34
     show CallOk Try.prog _ _ _ _
     refine cA ((run_machine_move_1_ok N x39 a0.frames a1 r41 hr42).swl [(1016,4),(1019,1003),(1021,1005),(21,504)] rfl) ?_
     refine A3 _ _ ?_
     refine EOk.gh (Gh.reidD 1001 1 1002 505 506 rfl rfl rfl rfl rfl rfl rfl rfl rfl rfl rfl rfl) (fun _=>?_)
     exact jn ⟨_,sj h34⟩ [(186,505),(520,506)]
    refine gos hn ?_
    obtain ⟨o52,h51,h34⟩:=bindM h34
    refine jk (ι:={ s // o52=Ctl.next s }) hn (fun s=>[]) (fun s=>[(186,.deep 2 97 [(1,(2,27))] (List.map eOb s.1.1) [] 522),(507,.gone),(522,.gone),(1000,.box [.ptr 1001 0,.fn Kl [.fp cl_0],.fn Kq [.fp cq_0,.fp cq_1],.int s.1.2.1,.int s.1.2.2.1,.int s.1.2.2.2.1,.own 1003,.int s.1.2.2.2.2.2.1,.int s.1.2.2.2.2.2.2.1,.int s.1.2.2.2.2.2.2.2] 123),(1001,.box [.sl 4 (List.map eCl a0.w.classes),.own 186,.int a0.w.epoch] 25),(1002,.gone),(1003,.deep 10 160 [(7,(2,27)),(8,(2,27))] (List.map eTFrame s.1.2.2.2.2.1) [] 507)]) [(0,_),(1,_)] [] (fun _ A4 _ R4=>?_) ?_
    ·refine goc hn ?_
     refine bselM h51 (fun hb53 h51=>?_) (fun hb53 h51=>?_)
     ·obtain ⟨x54,hx55,h51⟩:=bindM h51
      refine COk.gh (Gh.detach 1003 507 508 a1 7 rfl rfl (atD hx55) rfl rfl rfl rfl rfl rfl rfl rfl) (fun _=>?_)
      refine kp [(0,_),(1,_),(4,_),(5,_),(6,_)] [(4,_),(5,_),(507,_),(508,_),(1000,_),(1001,_),(1002,_),(1003,_)] ?_
      refine god hn (by kernel_rfl) ?_
      refine holeD hx55 rfl rfl (by decide) rfl ?_
      obtain ⟨x56,hx57,h51⟩:=bindM h51
      refine ownM hx57 ?_
      refine ldM (nthO_some hx57).2 ?_
      obtain ⟨r58,hr59,h51⟩:=bindM h51
      show CallOk Try.prog _ _ _ _
      refine cA ((run_machine_move_1_T_ok N x56 a0.frames a1 r58 hr59).swl [(1022,507),(1016,4),(1019,1003),(1021,508),(21,509)] rfl) ?_
      obtain ⟨x60,hx61,h51⟩:=bindM h51
      refine A4 _ _ ?_
      refine EOk.gh (Gh.attach (l':=List.map eTFrame (r58.set a1 (⟨x60.class_,x60.method,x60.fast,x60.code,x60.self_,x60.args,x54.temps,x60.stack,x60.at_⟩:TFrame))) 1003 507 510 a1 7 rfl rfl rfl (atD hx61) rfl rfl (setD rfl) rfl rfl rfl rfl rfl rfl) (fun _=>?_)
      refine EOk.gh (Gh.reidD 1001 1 1002 511 512 rfl rfl rfl rfl rfl rfl rfl rfl rfl rfl rfl rfl) (fun _=>?_)
      exact jn ⟨_,sj h51⟩ [(186,511),(522,512),(507,510)]
     refine gos hn ?_
     obtain ⟨o71,h70,h51⟩:=bindM h51
     refine jk (ι:={ s // o71=Ctl.next s }) hn (fun s=>[]) (fun s=>[(186,.deep 2 97 [(1,(2,27))] (List.map eOb s.1.1) [] 525),(513,.gone),(525,.gone),(1000,.box [.ptr 1001 0,.fn Kl [.fp cl_0],.fn Kq [.fp cq_0,.fp cq_1],.int s.1.2.1,.int s.1.2.2.1,.int s.1.2.2.2.1,.own 1003,.int s.1.2.2.2.2.2.1,.int s.1.2.2.2.2.2.2.1,.int s.1.2.2.2.2.2.2.2] 123),(1001,.box [.sl 4 (List.map eCl a0.w.classes),.own 186,.int a0.w.epoch] 25),(1002,.gone),(1003,.deep 10 160 [(7,(2,27)),(8,(2,27))] (List.map eTFrame s.1.2.2.2.2.1) [] 513)]) [(0,_),(1,_)] [] (fun _ A5 _ R5=>?_) ?_
     ·refine goc hn ?_
      refine bselM h70 (fun hb72 h70=>?_) (fun hb72 h70=>?_)
      ·refine kp [(0,_),(1,_),(4,_),(5,_),(6,_)] [(4,_),(5,_),(1000,_),(1001,_),(1002,_),(1003,_)] ?_
       refine god hn (by kernel_rfl) ?_
       obtain ⟨x73,hx74,h70⟩:=bindM h70
       refine ldM hx74 ?_
       obtain ⟨r75,hr76,h70⟩:=bindM h70
       show CallOk Try.prog _ _ _ _
       refine cD (value_Slot_ok N a0.w.heap x73.self_ a2.a r75 hr76) ?_
       obtain ⟨r77,hr78,h70⟩:=bindM h70
       show CallOk Try.prog _ _ _ _
       refine cA ((run_machine_move_1_ok N r75 a0.frames a1 r77 hr78).swl [(1016,4),(1019,1003),(1021,1005),(21,513)] rfl) ?_
       refine A5 _ _ ?_
       refine EOk.gh (Gh.reidD 1001 1 1002 514 515 rfl rfl rfl rfl rfl rfl rfl rfl rfl rfl rfl rfl) (fun _=>?_)
       exact jn ⟨_,sj h70⟩ [(186,514),(525,515)]
      refine kp [(0,_),(1,_),(4,_),(5,_),(6,_),(12,_)] [(4,_),(5,_),(1000,_),(1001,_),(1002,_),(1003,_)] ?_
      refine gos hn ?_
      obtain ⟨o88,h87,h70⟩:=bindM h70
      refine jk (ι:={ s // o88=Ctl.next s }) hn (fun s=>[]) (fun s=>[(186,.deep 2 97 [(1,(2,27))] (List.map eOb s.1.1) [] 527),(516,.gone),(527,.gone),(1000,.box [.ptr 1001 0,.fn Kl [.fp cl_0],.fn Kq [.fp cq_0,.fp cq_1],.int s.1.2.1,.int s.1.2.2.1,.int s.1.2.2.2.1,.own 1003,.int s.1.2.2.2.2.2.1,.int s.1.2.2.2.2.2.2.1,.int s.1.2.2.2.2.2.2.2] 123),(1001,.box [.sl 4 (List.map eCl a0.w.classes),.own 186,.int a0.w.epoch] 25),(1002,.gone),(1003,.deep 10 160 [(7,(2,27)),(8,(2,27))] (List.map eTFrame s.1.2.2.2.2.1) [] 516)]) [(0,_),(1,_)] [] (fun _ A6 _ R6=>?_) ?_
      ·refine goc hn ?_
       refine bselM h87 (fun hb89 h87=>?_) (fun hb89 h87=>?_)
       ·refine gor hn ?_
        obtain ⟨r90,hr91,h87⟩:=bindM h87
        show CallOk Try.prog _ _ _ _
        refine cA ((run_machine_move_1_ok N (⟨(3:Int),a2.a⟩:V) a0.frames a1 r90 hr91).swl [(1016,4),(1019,1003),(1021,1005),(21,516)] rfl) ?_
        refine A6 _ _ ?_
        refine EOk.gh (Gh.reidD 1001 1 1002 517 518 rfl rfl rfl rfl rfl rfl rfl rfl rfl rfl rfl rfl) (fun _=>?_)
        exact jn ⟨_,sj h87⟩ [(186,517),(527,518)]
       refine gos hn ?_
       obtain ⟨o101,h100,h87⟩:=bindM h87
       refine jk (ι:={ s // o101=Ctl.next s }) hn (fun s=>[]) (fun s=>[(186,.deep 2 97 [(1,(2,27))] (List.map eOb s.1.1) [] 529),(519,.gone),(529,.gone),(1000,.box [.ptr 1001 0,.fn Kl [.fp cl_0],.fn Kq [.fp cq_0,.fp cq_1],.int s.1.2.1,.int s.1.2.2.1,.int s.1.2.2.2.1,.own 1003,.int s.1.2.2.2.2.2.1,.int s.1.2.2.2.2.2.2.1,.int s.1.2.2.2.2.2.2.2] 123),(1001,.box [.sl 4 (List.map eCl a0.w.classes),.own 186,.int a0.w.epoch] 25),(1002,.gone),(1003,.deep 10 160 [(7,(2,27)),(8,(2,27))] (List.map eTFrame s.1.2.2.2.2.1) [] 519)]) [(0,_),(1,_)] [] (fun _ A7 _ R7=>?_) ?_
       ·refine goc hn ?_
        refine bselM h100 (fun hb102 h100=>?_) (fun hb102 h100=>?_)
        ·refine gor hn ?_
         obtain ⟨r103,hr104,h100⟩:=bindM h100
         show CallOk Try.prog _ _ _ _
         refine cA ((run_machine_move_1_ok N (⟨(0:Int),(0:Int)⟩:V) a0.frames a1 r103 hr104).swl [(1016,4),(1019,1003),(1021,1005),(21,519)] rfl) ?_
         refine A7 _ _ ?_
         refine EOk.gh (Gh.reidD 1001 1 1002 520 521 rfl rfl rfl rfl rfl rfl rfl rfl rfl rfl rfl rfl) (fun _=>?_)
         exact jn ⟨_,sj h100⟩ [(186,520),(529,521)]
        refine COk.seqQ fun _ A8 _ _=>?_
        refine gos hn ?_
        obtain ⟨o107,h106,h100⟩:=bindM h100
        refine jk (ι:={ s // o107=s }) hn (fun s=>[(75,.bool s.1)]) (fun s=>[]) [(0,_),(1,_),(4,_),(5,_),(6,_),(12,_)] [(4,_),(5,_),(1000,_),(1001,_),(1002,_),(1003,_)] (fun _ A9 _ _=>?_) ?_
        ·refine goc hn ?_
         refine bselM h106 (fun hb108 h106=>?_) (fun hb108 h106=>?_)
         ·refine gok hn ?_
          refine A9 _ _ ?_
          exact jn ⟨_,sj h106⟩ []
         refine gor hn ?_
         refine A9 _ _ ?_
         exact jn ⟨_,sj h106⟩ []
        rintro ⟨v105,hv_⟩
        replace hv_:=hv_.symm
        subst hv_
        refine A8 _ _ ?_
        obtain ⟨o118,h117,h100⟩:=bindM h100
        refine jk (ι:={ s // o118=Ctl.next s }) hn (fun s=>[]) (fun s=>[(186,.deep 2 97 [(1,(2,27))] (List.map eOb s.1.1) [] 531),(522,.gone),(531,.gone),(1000,.box [.ptr 1001 0,.fn Kl [.fp cl_0],.fn Kq [.fp cq_0,.fp cq_1],.int s.1.2.1,.int s.1.2.2.1,.int s.1.2.2.2.1,.own 1003,.int s.1.2.2.2.2.2.1,.int s.1.2.2.2.2.2.2.1,.int s.1.2.2.2.2.2.2.2] 123),(1001,.box [.sl 4 (List.map eCl a0.w.classes),.own 186,.int a0.w.epoch] 25),(1002,.gone),(1003,.deep 10 160 [(7,(2,27)),(8,(2,27))] (List.map eTFrame s.1.2.2.2.2.1) [] 522)]) [(0,_),(1,_)] [] (fun _ A10 _ R10=>?_) ?_
        ·refine goc hn ?_
         refine bselM h117 (fun hb119 h117=>?_) (fun hb119 h117=>?_)
         ·refine gor hn ?_
          obtain ⟨r120,hr121,h117⟩:=bindM h117
          show CallOk Try.prog _ _ _ _
          refine cA (value_Bool_ok N (decide (a2.op=(8:Int))) r120 hr121) ?_
          obtain ⟨r122,hr123,h117⟩:=bindM h117
          show CallOk Try.prog _ _ _ _
          refine cA ((run_machine_move_1_ok N r120 a0.frames a1 r122 hr123).swl [(1016,4),(1019,1003),(1021,1005),(21,522)] rfl) ?_
          refine A10 _ _ ?_
          refine EOk.gh (Gh.reidD 1001 1 1002 523 524 rfl rfl rfl rfl rfl rfl rfl rfl rfl rfl rfl rfl) (fun _=>?_)
          exact jn ⟨_,sj h117⟩ [(186,523),(531,524)]
         refine gos hn ?_
         obtain ⟨o133,h132,h117⟩:=bindM h117
         refine jk (ι:={ s // o133=Ctl.next s }) hn (fun s=>[]) (fun s=>[(186,.deep 2 97 [(1,(2,27))] (List.map eOb s.1.1) [] 533),(525,.gone),(533,.gone),(1000,.box [.ptr 1001 0,.fn Kl [.fp cl_0],.fn Kq [.fp cq_0,.fp cq_1],.int s.1.2.1,.int s.1.2.2.1,.int s.1.2.2.2.1,.own 1003,.int s.1.2.2.2.2.2.1,.int s.1.2.2.2.2.2.2.1,.int s.1.2.2.2.2.2.2.2] 123),(1001,.box [.sl 4 (List.map eCl a0.w.classes),.own 186,.int a0.w.epoch] 25),(1002,.gone),(1003,.deep 10 160 [(7,(2,27)),(8,(2,27))] (List.map eTFrame s.1.2.2.2.2.1) [] 525)]) [(0,_),(1,_)] [] (fun _ A11 _ R11=>?_) ?_
         ·refine goc hn ?_
          refine bselM h132 (fun hb134 h132=>?_) (fun hb134 h132=>?_)
          ·refine gor hn ?_
           obtain ⟨r135,hr136,h132⟩:=bindM h132
           show CallOk Try.prog _ _ _ _
           refine cA ((run_frame_pop_ok N a0.frames a1 r135 hr136).sw 5 525) ?_
           refine A11 _ _ ?_
           refine EOk.gh (Gh.reidD 1001 1 1002 526 527 rfl rfl rfl rfl rfl rfl rfl rfl rfl rfl rfl rfl) (fun _=>?_)
           exact jn ⟨_,sj h132⟩ [(186,526),(533,527)]
          refine gos hn ?_
          obtain ⟨o146,h145,h132⟩:=bindM h132
          refine jk (ι:={ s // o146=Ctl.next s }) hn (fun s=>[]) (fun s=>[(186,.deep 2 97 [(1,(2,27))] (List.map eOb s.1.1) [] 535),(528,.gone),(535,.gone),(1000,.box [.ptr 1001 0,.fn Kl [.fp cl_0],.fn Kq [.fp cq_0,.fp cq_1],.int s.1.2.1,.int s.1.2.2.1,.int s.1.2.2.2.1,.own 1003,.int s.1.2.2.2.2.2.1,.int s.1.2.2.2.2.2.2.1,.int s.1.2.2.2.2.2.2.2] 123),(1001,.box [.sl 4 (List.map eCl a0.w.classes),.own 186,.int a0.w.epoch] 25),(1002,.gone),(1003,.deep 10 160 [(7,(2,27)),(8,(2,27))] (List.map eTFrame s.1.2.2.2.2.1) [] 528)]) [(0,_),(1,_)] [] (fun _ A12 _ R12=>?_) ?_
          ·refine goc hn ?_
           refine bselM h145 (fun hb147 h145=>?_) (fun hb147 h145=>?_)
           ·obtain ⟨x148,hx149,h145⟩:=bindM h145
            refine COk.gh (Gh.detach 1003 528 529 a1 8 rfl rfl (atD hx149) rfl rfl rfl rfl rfl rfl rfl rfl) (fun _=>?_)
            refine kp [(0,_),(1,_),(4,_),(6,_)] [(4,_),(528,_),(529,_),(1000,_),(1001,_),(1002,_),(1003,_)] ?_
            refine god hn (by kernel_rfl) ?_
            refine holeD hx149 rfl rfl (by decide) rfl ?_
            refine holeD hx149 rfl rfl (by decide) rfl ?_
            refine lenM (fun _=>?_)
            refine Or.inr ?_
            obtain ⟨x151,hx152,h145⟩:=bindM h145
            refine ownM hx152 ?_
            refine ldM (nthO_some hx152).2 ?_
            obtain ⟨r153,hr154,h145⟩:=bindM h145
            show CallOk Try.prog _ _ _ _
            refine cA ((run_machine_move_1_S_ok N x151 x148.stack a0.frames a1 r153 hr154).swl [(1022,528),(1016,4),(1019,1003),(1021,529),(22,530)] rfl) ?_
            refine A12 _ _ ?_
            refine EOk.gh (Gh.attach (l':=List.map eTFrame (a0.frames.set a1 (⟨x148.class_,x148.method,x148.fast,x148.code,x148.self_,x148.args,x148.temps,r153,x148.at_⟩:TFrame))) 1003 530 531 a1 8 rfl rfl rfl (atD hx149) rfl rfl (setD rfl) rfl rfl rfl rfl rfl rfl) (fun _=>?_)
            refine EOk.gh (Gh.reidD 1001 1 1002 532 533 rfl rfl rfl rfl rfl rfl rfl rfl rfl rfl rfl rfl) (fun _=>?_)
            exact jn ⟨_,sj h145⟩ [(186,532),(535,533),(528,531)]
           refine gos hn ?_
           obtain ⟨o164,h163,h145⟩:=bindM h145
           refine jk (ι:={ s // o164=Ctl.next s }) hn (fun s=>[]) (fun s=>[(186,.deep 2 97 [(1,(2,27))] (List.map eOb s.1.1) [] 538),(534,.gone),(538,.gone),(1000,.box [.ptr 1001 0,.fn Kl [.fp cl_0],.fn Kq [.fp cq_0,.fp cq_1],.int s.1.2.1,.int s.1.2.2.1,.int s.1.2.2.2.1,.own 1003,.int s.1.2.2.2.2.2.1,.int s.1.2.2.2.2.2.2.1,.int s.1.2.2.2.2.2.2.2] 123),(1001,.box [.sl 4 (List.map eCl a0.w.classes),.own 186,.int a0.w.epoch] 25),(1002,.gone),(1003,.deep 10 160 [(7,(2,27)),(8,(2,27))] (List.map eTFrame s.1.2.2.2.2.1) [] 534)]) [(0,_),(1,_)] [] (fun _ A13 _ R13=>?_) ?_
           ·refine goc hn ?_
            refine bselM h163 (fun hb165 h163=>?_) (fun hb165 h163=>?_)
            ·obtain ⟨x166,hx167,h163⟩:=bindM h163
             refine COk.gh (Gh.detach 1003 534 535 a1 7 rfl rfl (atD hx167) rfl rfl rfl rfl rfl rfl rfl rfl) (fun _=>?_)
             refine kp [(0,_),(1,_),(4,_),(5,_)] [(4,_),(5,_),(534,_),(535,_),(1000,_),(1001,_),(1002,_),(1003,_)] ?_
             refine god2 3 7 hn (by kernel_rfl) ?_
             refine holeD hx167 rfl rfl (by decide) rfl ?_
             obtain ⟨r168,hr169,h163⟩:=bindM h163
             show CallOk Try.prog _ _ _ _
             refine cA ((((run_frame_pop_T_ok N a0.frames a1 r168 hr169).sw 1005 535).sw 1006 534).sw 5 536) ?_
             obtain ⟨x170,hx171,h163⟩:=bindM h163
             refine And.intro ⟨rfl,⟨rfl,trivial⟩,holeD hx171 rfl rfl (by decide) rfl ⟨rfl,rfl,rfl,rfl⟩⟩ ?_
             obtain ⟨x172,hx173,h163⟩:=bindM h163
             refine ownM hx173 ?_
             refine ldM (nthO_some hx173).2 ?_
             refine Exists.intro (List.map eV (x166.temps.set a2.a.toNat r168.1)) (And.intro (leLs_set (nthO_some hx173).2 (by repeat (first|exact trivial|exact rfl|(refine And.intro ?_ ?_)))) ?_)
             refine A13 _ _ ?_
             refine EOk.gh (Gh.attach (l':=List.map eTFrame (r168.2.set a1 (⟨x170.class_,x170.method,x170.fast,x170.code,x170.self_,x170.args,(x166.temps.set a2.a.toNat r168.1),x170.stack,x170.at_⟩:TFrame))) 1003 534 537 a1 7 rfl rfl rfl (atD hx171) rfl rfl (setD rfl) rfl rfl rfl rfl rfl rfl) (fun _=>?_)
             refine EOk.gh (Gh.reidD 1001 1 1002 538 539 rfl rfl rfl rfl rfl rfl rfl rfl rfl rfl rfl rfl) (fun _=>?_)
             exact jn ⟨_,sj h163⟩ [(186,538),(538,539),(534,537)]
            refine gos hn ?_
            obtain ⟨o183,h182,h163⟩:=bindM h163
            refine jk (ι:={ s // o183=Ctl.next s }) hn (fun s=>[]) (fun s=>[(186,.deep 2 97 [(1,(2,27))] (List.map eOb s.1.1) [] 541),(540,.gone),(541,.gone),(1000,.box [.ptr 1001 0,.fn Kl [.fp cl_0],.fn Kq [.fp cq_0,.fp cq_1],.int s.1.2.1,.int s.1.2.2.1,.int s.1.2.2.2.1,.own 1003,.int s.1.2.2.2.2.2.1,.int s.1.2.2.2.2.2.2.1,.int s.1.2.2.2.2.2.2.2] 123),(1001,.box [.sl 4 (List.map eCl a0.w.classes),.own 186,.int a0.w.epoch] 25),(1002,.gone),(1003,.deep 10 160 [(7,(2,27)),(8,(2,27))] (List.map eTFrame s.1.2.2.2.2.1) [] 540)]) [(0,_),(1,_)] [] (fun _ A14 _ R14=>?_) ?_
            ·refine goc hn ?_
             refine bselM h182 (fun hb184 h182=>?_) (fun hb184 h182=>?_)
             ·refine god2 4 8 hn (by kernel_rfl) ?_
              obtain ⟨x185,hx186,h182⟩:=bindM h182
              refine ldM hx186 ?_
              obtain ⟨r187,hr188,h182⟩:=bindM h182
              show CallOk Try.prog _ _ _ _
              refine cA ((run_frame_pop_ok N a0.frames a1 r187 hr188).sw 5 540) ?_
              obtain ⟨x189,hx190,h182⟩:=bindM h182
              refine And.intro ⟨rfl,⟨rfl,trivial⟩,ldM hx190 ⟨congrArg (fun v=>AV.agg (eV v)) (run_frame_pop_self hr188 hx186 hx190),rfl,rfl,rfl⟩⟩ ?_
              obtain ⟨r191,hr192,h182⟩:=bindM h182
              show CallOk Try.prog _ _ _ _
              refine cA ((run_machine_put_c1_2_ok N (⟨(⟨a0.w.classes,a0.w.heap,a0.w.epoch⟩:Wd),a0.fuel,a0.sends,a0.turns,r187.2,a0.back,a0.err⟩:TMachine) gl gq x185.self_ a2.a r187.1 hgl hgq r191 hr192).sw 3 541) ?_
              refine A14 _ _ ?_
              refine EOk.gh (Gh.reidD 1001 1 1002 542 543 rfl rfl rfl rfl rfl rfl rfl rfl rfl rfl rfl rfl) (fun _=>?_)
              exact jn ⟨_,sj h182⟩ [(186,542),(541,543)]
             refine gos hn ?_
             obtain ⟨o202,h201,h182⟩:=bindM h182
             refine jk (ι:={ s // o202=Ctl.next s }) hn (fun s=>[]) (fun s=>[(186,.deep 2 97 [(1,(2,27))] (List.map eOb s.1.1) [] 550),(544,.gone),(550,.gone),(1000,.box [.ptr 1001 0,.fn Kl [.fp cl_0],.fn Kq [.fp cq_0,.fp cq_1],.int s.1.2.1,.int s.1.2.2.1,.int s.1.2.2.2.1,.own 1003,.int s.1.2.2.2.2.2.1,.int s.1.2.2.2.2.2.2.1,.int s.1.2.2.2.2.2.2.2] 123),(1001,.box [.sl 4 (List.map eCl a0.w.classes),.own 186,.int a0.w.epoch] 25),(1002,.gone),(1003,.deep 10 160 [(7,(2,27)),(8,(2,27))] (List.map eTFrame s.1.2.2.2.2.1) [] 544)]) [(0,_),(1,_)] [] (fun _ A15 _ R15=>?_) ?_
             ·refine goc hn ?_
              refine bselM h201 (fun hb203 h201=>?_) (fun hb203 h201=>?_)
              ·obtain ⟨x204,hx205,h201⟩:=bindM h201
               refine COk.gh (Gh.detach 1003 544 545 a1 7 rfl rfl (atD hx205) rfl rfl rfl rfl rfl rfl rfl rfl) (fun _=>?_)
               refine kp [(0,_),(1,_),(4,_),(5,_),(6,_)] [(4,_),(5,_),(544,_),(545,_),(1000,_),(1001,_),(1002,_),(1003,_)] ?_
               refine god hn (by kernel_rfl) ?_
               refine holeD hx205 rfl rfl (by decide) rfl ?_
               obtain ⟨x206,hx207,h201⟩:=bindM h201
               refine ownM hx207 ?_
               refine ldM (nthO_some hx207).2 ?_
               obtain ⟨r208,hr209,h201⟩:=bindM h201
               show CallOk Try.prog _ _ _ _
               refine cD (value_Slot_ok N a0.w.heap x206 a2.b r208 hr209) ?_
               obtain ⟨r210,hr211,h201⟩:=bindM h201
               show CallOk Try.prog _ _ _ _
               refine cA ((run_machine_move_1_T_ok N r208 a0.frames a1 r210 hr211).swl [(1022,544),(1016,4),(1019,1003),(1021,545),(21,546)] rfl) ?_
               obtain ⟨x212,hx213,h201⟩:=bindM h201
               refine A15 _ _ ?_
               refine EOk.gh (Gh.attach (l':=List.map eTFrame (r210.set a1 (⟨x212.class_,x212.method,x212.fast,x212.code,x212.self_,x212.args,x204.temps,x212.stack,x212.at_⟩:TFrame))) 1003 544 547 a1 7 rfl rfl rfl (atD hx213) rfl rfl (setD rfl) rfl rfl rfl rfl rfl rfl) (fun _=>?_)
               refine EOk.gh (Gh.reidD 1001 1 1002 548 549 rfl rfl rfl rfl rfl rfl rfl rfl rfl rfl rfl rfl) (fun _=>?_)
               exact jn ⟨_,sj h201⟩ [(186,548),(550,549),(544,547)]
              refine kp [(0,_),(1,_),(4,_),(5,_),(6,_),(12,_)] [(4,_),(5,_),(1000,_),(1001,_),(1002,_),(1003,_)] ?_
              refine gos hn ?_
              obtain ⟨o223,h222,h201⟩:=bindM h201
              refine jk (ι:={ s // o223=Ctl.next s }) hn (fun s=>[]) (fun s=>[(186,.deep 2 97 [(1,(2,27))] (List.map eOb s.1.1) [] 553),(550,.gone),(553,.gone),(1000,.box [.ptr 1001 0,.fn Kl [.fp cl_0],.fn Kq [.fp cq_0,.fp cq_1],.int s.1.2.1,.int s.1.2.2.1,.int s.1.2.2.2.1,.own 1003,.int s.1.2.2.2.2.2.1,.int s.1.2.2.2.2.2.2.1,.int s.1.2.2.2.2.2.2.2] 123),(1001,.box [.sl 4 (List.map eCl a0.w.classes),.own 186,.int a0.w.epoch] 25),(1002,.gone),(1003,.deep 10 160 [(7,(2,27)),(8,(2,27))] (List.map eTFrame s.1.2.2.2.2.1) [] 550)]) [(0,_),(1,_)] [] (fun _ A16 _ R16=>?_) ?_
              ·refine goc hn ?_
               refine bselM h222 (fun hb224 h222=>?_) (fun hb224 h222=>?_)
               ·obtain ⟨x225,hx226,h222⟩:=bindM h222
                refine COk.gh (Gh.detach 1003 550 551 a1 7 rfl rfl (atD hx226) rfl rfl rfl rfl rfl rfl rfl rfl) (fun _=>?_)
                refine kp [(0,_),(1,_),(4,_),(5,_)] [(4,_),(5,_),(550,_),(551,_),(1000,_),(1001,_),(1002,_),(1003,_)] ?_
                refine god2 4 12 hn (by kernel_rfl) ?_
                refine holeD hx226 rfl rfl (by decide) rfl ?_
                obtain ⟨x227,hx228,h222⟩:=bindM h222
                refine ownM hx228 ?_
                refine ldM (nthO_some hx228).2 ?_
                obtain ⟨r229,hr230,h222⟩:=bindM h222
                show CallOk Try.prog _ _ _ _
                refine cA ((((run_frame_pop_T_ok N a0.frames a1 r229 hr230).sw 1005 551).sw 1006 550).sw 5 552) ?_
                obtain ⟨x231,hx232,h222⟩:=bindM h222
                refine And.intro ⟨rfl,⟨rfl,trivial⟩,holeD hx232 rfl rfl (by decide) rfl ⟨rfl,rfl,rfl,rfl⟩⟩ ?_
                obtain ⟨r233,hr234,h222⟩:=bindM h222
                show CallOk Try.prog _ _ _ _
                refine cA ((run_machine_put_c1_2_ok N (⟨(⟨a0.w.classes,a0.w.heap,a0.w.epoch⟩:Wd),a0.fuel,a0.sends,a0.turns,r229.2,a0.back,a0.err⟩:TMachine) gl gq x227 a2.b r229.1 hgl hgq r233 hr234).sw 3 553) ?_
                refine A16 _ _ ?_
                refine EOk.gh (Gh.attach (l':=List.map eTFrame (r229.2.set a1 (⟨x231.class_,x231.method,x231.fast,x231.code,x231.self_,x231.args,x225.temps,x231.stack,x231.at_⟩:TFrame))) 1003 550 554 a1 7 rfl rfl rfl (atD hx232) rfl rfl (setD rfl) rfl rfl rfl rfl rfl rfl) (fun _=>?_)
                refine EOk.gh (Gh.reidD 1001 1 1002 555 556 rfl rfl rfl rfl rfl rfl rfl rfl rfl rfl rfl rfl) (fun _=>?_)
                exact jn ⟨_,sj h222⟩ [(186,555),(553,556),(550,554)]
               refine gos hn ?_
               obtain ⟨o238,h237,h222⟩:=bindM h222
               refine jk (ι:={ s // o238=Ctl.next s }) hn (fun s=>[]) (fun s=>[(186,.deep 2 97 [(1,(2,27))] (List.map eOb s.1.1) [] 886),(560,.gone),(886,.gone),(1001,.box [.sl 4 (List.map eCl a0.w.classes),.own 186,.int a0.w.epoch] 25),(1002,.gone),(1003,.deep 10 160 [(7,(2,27)),(8,(2,27))] (List.map eTFrame s.1.2) [] 560)]) [(0,_),(1,_)] [(1000,_)] (fun _ A17 _ R17=>?_) ?_
               ·refine goc hn ?_
                refine bselM h237 (fun hb239 h237=>?_) (fun hb239 h237=>?_)
                ·refine COk.seqQ fun _ A18 _ _=>?_
                 refine kp [(0,_),(1,_),(5,_),(6,_)] [(4,_),(5,_),(1000,_),(1001,_),(1002,_),(1003,_)] ?_
                 refine god hn (by kernel_rfl) ?_
                 obtain ⟨r240,hr241,h237⟩:=bindM h237
                 show CallOk Try.prog _ _ _ _
                 refine cD (class_Slots_ok N (⟨a0.w.classes,a0.w.heap,a0.w.epoch⟩:Wd) a2.a r240 hr241) ?_
                 obtain ⟨r242,hr243,h237⟩:=bindM h237
                 show CallOk Try.prog _ _ _ _
                 refine cDf (((value_New_ok N a0.w.heap a2.a r240 r242 hr243).sw 0 186).sw 1 886) ⟨flatOb _,trivial,trivial⟩ ?_
                 refine A18 _ _ ?_
                 refine COk.seqQ fun _ A19 _ R19=>?_
                 refine kp [(0,_),(1,_),(6,_),(7,_),(8,_),(9,_)] [(4,_),(8,_),(186,_),(886,_),(1000,_),(1001,_),(1002,_),(1003,_)] ?_
                 refine gos hn ?_
                 refine goc hn ?_
                 refine bselM h237 (fun hb244 h237=>?_) (fun hb244 h237=>?_)
                 ·refine gos hn ?_
                  obtain ⟨r245,hr246,h237⟩:=bindM h237
                  show CallOk Try.prog _ _ _ _
                  refine cA (run_machine_fail_c1_2_ok N (⟨(⟨a0.w.classes,a0.w.heap,a0.w.epoch⟩:Wd),a0.fuel,a0.sends,a0.turns,a0.frames,a0.back,a0.err⟩:TMachine) gl gq r242.2.2 hgl hgq r245 hr246) ?_
                  refine COk.gh (Gh.reidD 1001 1 1002 557 558 rfl rfl rfl rfl rfl rfl rfl rfl rfl rfl rfl rfl) (fun _=>?_)
                  refine COk.gh (Gh.resh 1003 559 rfl rfl rfl rfl) (fun _=>?_)
                  refine got hn ?_
                  refine R19 _ _ ?_
                  refine R17 _ _ ?_
                  refine R16 _ _ ?_
                  refine R15 _ _ ?_
                  refine R14 _ _ ?_
                  refine R13 _ _ ?_
                  refine R12 _ _ ?_
                  refine R11 _ _ ?_
                  refine R10 _ _ ?_
                  refine R7 _ _ ?_
                  refine R6 _ _ ?_
                  refine R5 _ _ ?_
                  refine R4 _ _ ?_
                  refine R3 _ _ ?_
                  refine R2 _ _ ?_
                  refine R1 _ _ ?_
                  refine R0 _ _ ?_
                  obtain rfl:=Option.some.inj h237
                  obtain rfl:=Option.some.inj h222
                  obtain rfl:=Option.some.inj h201
                  obtain rfl:=Option.some.inj h182
                  obtain rfl:=Option.some.inj h163
                  obtain rfl:=Option.some.inj h145
                  obtain rfl:=Option.some.inj h132
                  obtain rfl:=Option.some.inj h117
                  obtain rfl:=Option.some.inj h100
                  obtain rfl:=Option.some.inj h87
                  obtain rfl:=Option.some.inj h70
                  obtain rfl:=Option.some.inj h51
                  obtain rfl:=Option.some.inj h34
                  obtain rfl:=Option.some.inj h19
                  obtain rfl:=Option.some.inj h9
                  obtain rfl:=Option.some.inj h
                  exact ⟨[(2,557),(3,558),(5,559)],_,fm⟩
                 refine gok hn ?_
                 refine A19 _ _ ?_
                 refine gos hn ?_
                 refine gor hn ?_
                 obtain ⟨r247,hr248,h237⟩:=bindM h237
                 show CallOk Try.prog _ _ _ _
                 refine cA ((run_machine_move_1_ok N r242.2.1 a0.frames a1 r247 hr248).swl [(1016,4),(1019,1003),(1021,1005),(21,560)] rfl) ?_
                 refine A17 _ _ ?_
                 refine EOk.gh (Gh.drop 1002 rfl) (fun _=>?_)
                 exact jn ⟨_,sj h237⟩ []
                refine gok hn ?_
                refine A17 _ _ ?_
                refine EOk.gh (Gh.reidD 1001 1 1002 561 562 rfl rfl rfl rfl rfl rfl rfl rfl rfl rfl rfl rfl) (fun _=>?_)
                refine EOk.gh (Gh.resh 1003 563 rfl rfl rfl rfl) (fun _=>?_)
                exact jn ⟨_,sj h237⟩ [(186,561),(886,562),(560,563)]
               rintro ⟨⟨v235,v236⟩,rfl⟩
               refine A16 _ _ ?_
               exact jn ⟨_,sj h222⟩ [(553,886),(550,560)]
              rintro ⟨⟨v214,v215,v216,v217,v218,v219,v220,v221⟩,rfl⟩
              refine A15 _ _ ?_
              exact jn ⟨_,sj h201⟩ [(550,553),(544,550)]
             rintro ⟨⟨v193,v194,v195,v196,v197,v198,v199,v200⟩,rfl⟩
             refine A14 _ _ ?_
             exact jn ⟨_,sj h182⟩ [(541,550),(540,544)]
            rintro ⟨⟨v174,v175,v176,v177,v178,v179,v180,v181⟩,rfl⟩
            refine A13 _ _ ?_
            exact jn ⟨_,sj h163⟩ [(538,541),(534,540)]
           rintro ⟨⟨v155,v156,v157,v158,v159,v160,v161,v162⟩,rfl⟩
           refine A12 _ _ ?_
           exact jn ⟨_,sj h145⟩ [(535,538),(528,534)]
          rintro ⟨⟨v137,v138,v139,v140,v141,v142,v143,v144⟩,rfl⟩
          refine A11 _ _ ?_
          exact jn ⟨_,sj h132⟩ [(533,535),(525,528)]
         rintro ⟨⟨v124,v125,v126,v127,v128,v129,v130,v131⟩,rfl⟩
         refine A10 _ _ ?_
         exact jn ⟨_,sj h117⟩ [(531,533),(522,525)]
        rintro ⟨⟨v109,v110,v111,v112,v113,v114,v115,v116⟩,rfl⟩
        refine A7 _ _ ?_
        exact jn ⟨_,sj h100⟩ [(529,531),(519,522)]
       rintro ⟨⟨v92,v93,v94,v95,v96,v97,v98,v99⟩,rfl⟩
       refine A6 _ _ ?_
       exact jn ⟨_,sj h87⟩ [(527,529),(516,519)]
      rintro ⟨⟨v79,v80,v81,v82,v83,v84,v85,v86⟩,rfl⟩
      refine A5 _ _ ?_
      exact jn ⟨_,sj h70⟩ [(525,527),(513,516)]
     rintro ⟨⟨v62,v63,v64,v65,v66,v67,v68,v69⟩,rfl⟩
     refine A4 _ _ ?_
     exact jn ⟨_,sj h51⟩ [(522,525),(507,513)]
    rintro ⟨⟨v43,v44,v45,v46,v47,v48,v49,v50⟩,rfl⟩
    refine A3 _ _ ?_
    exact jn ⟨_,sj h34⟩ [(520,522),(504,507)]
   rintro ⟨⟨v26,v27,v28,v29,v30,v31,v32,v33⟩,rfl⟩
   refine A2 _ _ ?_
   exact jn ⟨_,sj h19⟩ [(518,520),(501,504)]
  rintro ⟨⟨v11,v12,v13,v14,v15,v16,v17,v18⟩,rfl⟩
  refine A1 _ _ ?_
  refine A0 _ _ ?_
  exact jn ⟨_,sj h9⟩ []
 rintro ⟨⟨v1,v2,v3,v4,v5,v6,v7,v8⟩,rfl⟩
 refine EOk.done ?_
 obtain rfl:=Option.some.inj h
 exact ⟨[(2,186),(3,518),(5,501)],_,fm⟩

/- (*run.machine).step -/
set_option maxRecDepth 100000 in
set_option maxHeartbeats 8000000 in
theorem run_machine_step_c1_2_ok (N:Nat) (a0:TMachine) (gl:St→Int→ByteArray→Option (Int×Int)) (gq:Int→Int→Option (Fs×Bool)) {Kl:Nat} {cl_0:List AV} (hgl:∀x0_ x1_ x2_ y_,gl x0_ x1_ x2_=some y_→Spec Try.prog Kl [] [.agg (eSt x0_),.int x1_,.str x2_,.fp cl_0] (.tup [.int y_.1,.int y_.2]) [] []) {Kq:Nat} {cq_0:List AV} {cq_1:List AV} (hgq:∀x0_ x1_ y_,gq x0_ x1_=some y_→Spec Try.prog Kq [] [.int x0_,.int x1_,.fp cq_0,.fp cq_1] (.tup [.agg (eFs y_.1),.bool y_.2]) [] []) (r:TMachine) (h:run_machine_step N a0 gl gq=some r):Spec Try.prog 62 [(1000,.box [.ptr 1001 0,.fn Kl [.fp cl_0],.fn Kq [.fp cq_0,.fp cq_1],.int a0.fuel,.int a0.sends,.int a0.turns,.own 1003,.int a0.back.k,.int a0.back.n,.int a0.err] 123),(1001,.box [.sl 4 (List.map eCl a0.w.classes),.own 1002,.int a0.w.epoch] 25),(1002,.deep 2 97 [(1,(2,27))] (List.map eOb a0.w.heap) [] 1004),(1003,.deep 10 160 [(7,(2,27)),(8,(2,27))] (List.map eTFrame a0.frames) [] 1005)] [.ptr 1000 0] (.tup []) [(1000,.box [.ptr 1001 0,.fn Kl [.fp cl_0],.fn Kq [.fp cq_0,.fp cq_1],.int r.fuel,.int r.sends,.int r.turns,.own 4,.int r.back.k,.int r.back.n,.int r.err] 123),(1001,.box [.sl 4 (List.map eCl r.w.classes),.own 2,.int r.w.epoch] 25),(2,.deep 2 97 [(1,(2,27))] (List.map eOb r.w.heap) [] 3),(3,.gone),(1002,.gone),(4,.deep 10 160 [(7,(2,27)),(8,(2,27))] (List.map eTFrame r.frames) [] 5),(5,.gone),(1003,.gone)] [3,2,5,4]:=by
 refine Spec.of tabOk Try.func62 rfl Try.ntmps62 (by kernel_rfl) rfl rfl rfl fun Γ hn=>?_
 unfold run_machine_step at h
 refine COk.snoc ?_
 refine COk.seqQ fun _ A0 _ _=>?_
 refine god hn (by kernel_rfl) ?_
 refine lenM (fun _=>?_)
 refine Or.inr ?_
 obtain ⟨x2,hx3,h⟩:=bindM h
 refine ixD hx3 rfl rfl ?_
 refine A0 _ _ ?_
 refine gos hn ?_
 refine ldM (nthO_some hx3).2 ?_
 refine kp [(0,_),(2,_),(3,_)] [(1000,_),(1001,_),(1002,_),(1003,_)] ?_
 refine gos hn ?_
 refine ldM (nthO_some hx3).2 ?_
 obtain ⟨x4,hx5,h⟩:=bindM h
 refine idxM hx5 ?_
 refine gos hn ?_
 refine ldM (nthO_some hx3).2 ?_
 refine Or.inr ?_
 refine stD (nthO_some hx3).2 rfl rfl rfl ?_
 refine Exists.intro (List.map eTFrame (a0.frames.set ((wr ((a0.frames.length:Int) - (1:Int))).toNat) (⟨x2.class_,x2.method,x2.fast,x2.code,x2.self_,x2.args,x2.temps,x2.stack,(wr (x2.at_+(1:Int)))⟩:TFrame))) (And.intro (setD rfl) ?_)
 refine kp [(0,_),(2,_),(3,_),(4,_)] [(4,_),(1000,_),(1001,_),(1002,_),(1003,_)] ?_
 refine gos hn ?_
 obtain ⟨o17,h16,h⟩:=bindM h
 refine jk (ι:={ s // o17=s }) hn (fun s=>[]) (fun s=>[(501,.gone),(502,.deep 10 160 [(7,(2,27)),(8,(2,27))] (List.map eTFrame s.1.2.2.2.2.2.2.1) [] 501),(509,.gone),(510,.deep 2 97 [(1,(2,27))] (List.map eOb s.1.2.1) [] 509),(1000,.box [.ptr 1001 0,.fn Kl [.fp cl_0],.fn Kq [.fp cq_0,.fp cq_1],.int s.1.2.2.2.1,.int s.1.2.2.2.2.1,.int s.1.2.2.2.2.2.1,.own 502,.int s.1.2.2.2.2.2.2.2.1,.int s.1.2.2.2.2.2.2.2.2.1,.int s.1.2.2.2.2.2.2.2.2.2] 123),(1001,.box [.sl 4 (List.map eCl s.1.1),.own 510,.int s.1.2.2.1] 25),(1002,.gone),(1003,.gone)]) [(0,_)] [] (fun _ A1 _ _=>?_) ?_
 ·refine COk.blkQ fun _ A2 _ _ _=>?_
  refine gos hn ?_
  obtain ⟨o29,h28,h16⟩:=bindM h16
  refine jk (ι:={ s // o29=s }) hn (fun s=>[]) (fun s=>[(501,.gone),(502,.deep 10 160 [(7,(2,27)),(8,(2,27))] (List.map eTFrame s.1.2.2.2.2.2.2.1) [] 501),(509,.gone),(510,.deep 2 97 [(1,(2,27))] (List.map eOb s.1.2.1) [] 509),(1000,.box [.ptr 1001 0,.fn Kl [.fp cl_0],.fn Kq [.fp cq_0,.fp cq_1],.int s.1.2.2.2.1,.int s.1.2.2.2.2.1,.int s.1.2.2.2.2.2.1,.own 502,.int s.1.2.2.2.2.2.2.2.1,.int s.1.2.2.2.2.2.2.2.2.1,.int s.1.2.2.2.2.2.2.2.2.2] 123),(1001,.box [.sl 4 (List.map eCl s.1.1),.own 510,.int s.1.2.2.1] 25),(1002,.gone),(1003,.gone)]) [(0,_)] [] (fun _ A3 _ _=>?_) ?_
  ·refine goc hn ?_
   refine bselM h28 (fun hb30 h28=>?_) (fun hb30 h28=>?_)
   ·refine gor hn ?_
    obtain ⟨r31,hr32,h28⟩:=bindM h28
    show CallOk Try.prog _ _ _ _
    refine cA (((run_machine_send_c1_2_ok N (⟨(⟨a0.w.classes,a0.w.heap,a0.w.epoch⟩:Wd),a0.fuel,a0.sends,a0.turns,(a0.frames.set ((wr ((a0.frames.length:Int) - (1:Int))).toNat) (⟨x2.class_,x2.method,x2.fast,x2.code,x2.self_,x2.args,x2.temps,x2.stack,(wr (x2.at_+(1:Int)))⟩:TFrame)),a0.back,a0.err⟩:TMachine) gl gq ((wr ((a0.frames.length:Int) - (1:Int))).toNat) x4 x2.at_ hgl hgq r31 hr32).sw 5 501).sw 4 502) ?_
    refine A3 _ _ ?_
    refine EOk.gh (Gh.reidD 1001 1 1002 503 504 rfl rfl rfl rfl rfl rfl rfl rfl rfl rfl rfl rfl) (fun _=>?_)
    exact jn ⟨_,sj h28⟩ [(510,503),(509,504)]
   refine gos hn ?_
   obtain ⟨o44,h43,h28⟩:=bindM h28
   refine jk (ι:={ s // o44=s }) hn (fun s=>[]) (fun s=>[(88,.deep 10 160 [(7,(2,27)),(8,(2,27))] (List.map eTFrame s.1.2.2.2.2.2.2.1) [] 505),(505,.gone),(511,.gone),(512,.deep 2 97 [(1,(2,27))] (List.map eOb s.1.2.1) [] 511),(1000,.box [.ptr 1001 0,.fn Kl [.fp cl_0],.fn Kq [.fp cq_0,.fp cq_1],.int s.1.2.2.2.1,.int s.1.2.2.2.2.1,.int s.1.2.2.2.2.2.1,.own 88,.int s.1.2.2.2.2.2.2.2.1,.int s.1.2.2.2.2.2.2.2.2.1,.int s.1.2.2.2.2.2.2.2.2.2] 123),(1001,.box [.sl 4 (List.map eCl s.1.1),.own 512,.int s.1.2.2.1] 25),(1002,.gone),(1003,.gone)]) [(0,_)] [] (fun _ A4 _ _=>?_) ?_
   ·refine goc hn ?_
    refine bselM h43 (fun hb45 h43=>?_) (fun hb45 h43=>?_)
    ·refine gor hn ?_
     obtain ⟨r46,hr47,h43⟩:=bindM h43
     show CallOk Try.prog _ _ _ _
     refine cA ((run_machine_jump_c1_2_ok N (⟨(⟨a0.w.classes,a0.w.heap,a0.w.epoch⟩:Wd),a0.fuel,a0.sends,a0.turns,(a0.frames.set ((wr ((a0.frames.length:Int) - (1:Int))).toNat) (⟨x2.class_,x2.method,x2.fast,x2.code,x2.self_,x2.args,x2.temps,x2.stack,(wr (x2.at_+(1:Int)))⟩:TFrame)),a0.back,a0.err⟩:TMachine) gl gq ((wr ((a0.frames.length:Int) - (1:Int))).toNat) x4.a hgl hgq r46 hr47).sw 5 505) ?_
     refine A4 _ _ ?_
     refine EOk.gh (Gh.reidD 1001 1 1002 506 507 rfl rfl rfl rfl rfl rfl rfl rfl rfl rfl rfl rfl) (fun _=>?_)
     refine EOk.gh (Gh.reidD 1000 6 1003 508 509 rfl rfl rfl rfl rfl rfl rfl rfl rfl rfl rfl rfl) (fun _=>?_)
     exact jn ⟨_,sj h43⟩ [(512,506),(511,507),(88,508),(505,509)]
    refine gos hn ?_
    obtain ⟨o59,h58,h43⟩:=bindM h43
    refine jk (ι:={ s // o59=s }) hn (fun s=>[]) (fun s=>[(88,.deep 10 160 [(7,(2,27)),(8,(2,27))] (List.map eTFrame s.1.2.2.2.2.2.2.1) [] 511),(511,.gone),(515,.gone),(516,.deep 2 97 [(1,(2,27))] (List.map eOb s.1.2.1) [] 515),(1000,.box [.ptr 1001 0,.fn Kl [.fp cl_0],.fn Kq [.fp cq_0,.fp cq_1],.int s.1.2.2.2.1,.int s.1.2.2.2.2.1,.int s.1.2.2.2.2.2.1,.own 88,.int s.1.2.2.2.2.2.2.2.1,.int s.1.2.2.2.2.2.2.2.2.1,.int s.1.2.2.2.2.2.2.2.2.2] 123),(1001,.box [.sl 4 (List.map eCl s.1.1),.own 516,.int s.1.2.2.1] 25),(1002,.gone),(1003,.gone)]) [(0,_)] [] (fun _ A5 _ _=>?_) ?_
    ·refine goc hn ?_
     refine bselM h58 (fun hb60 h58=>?_) (fun hb60 h58=>?_)
     ·refine gos hn ?_
      obtain ⟨r61,hr62,h58⟩:=bindM h58
      show CallOk Try.prog _ _ _ _
      refine cA ((run_frame_pop_ok N (a0.frames.set ((wr ((a0.frames.length:Int) - (1:Int))).toNat) (⟨x2.class_,x2.method,x2.fast,x2.code,x2.self_,x2.args,x2.temps,x2.stack,(wr (x2.at_+(1:Int)))⟩:TFrame)) ((wr ((a0.frames.length:Int) - (1:Int))).toNat) r61 hr62).sw 5 510) ?_
      refine gos hn ?_
      obtain ⟨o71,h70,h58⟩:=bindM h58
      refine jk (ι:={ s // o71=s }) hn (fun s=>[]) (fun s=>[(511,.gone),(1000,.box [.ptr 1001 0,.fn Kl [.fp cl_0],.fn Kq [.fp cq_0,.fp cq_1],.int s.1.1,.int s.1.2.1,.int s.1.2.2.1,.own 1003,.int s.1.2.2.2.2.1,.int s.1.2.2.2.2.2.1,.int s.1.2.2.2.2.2.2] 123),(1003,.deep 10 160 [(7,(2,27)),(8,(2,27))] (List.map eTFrame s.1.2.2.2.1) [] 511)]) [(0,_)] [(1001,_),(1002,_)] (fun _ A6 _ _=>?_) ?_
      ·refine COk.blkQ fun _ A7 _ _ _=>?_
       refine kp [(0,_),(2,_),(4,_),(61,_)] [(4,_),(510,_),(1000,_),(1001,_),(1002,_),(1003,_)] ?_
       refine gos hn ?_
       obtain ⟨o80,h79,h70⟩:=bindM h70
       refine jk (ι:={ s // o80=s }) hn (fun s=>[]) (fun s=>[(511,.gone),(1000,.box [.ptr 1001 0,.fn Kl [.fp cl_0],.fn Kq [.fp cq_0,.fp cq_1],.int s.1.1,.int s.1.2.1,.int s.1.2.2.1,.own 1003,.int s.1.2.2.2.2.1,.int s.1.2.2.2.2.2.1,.int s.1.2.2.2.2.2.2] 123),(1003,.deep 10 160 [(7,(2,27)),(8,(2,27))] (List.map eTFrame s.1.2.2.2.1) [] 511)]) [(0,_)] [(1001,_),(1002,_)] (fun _ A8 _ _=>?_) ?_
       ·refine goc hn ?_
        refine bselM h79 (fun hb81 h79=>?_) (fun hb81 h79=>?_)
        ·refine gor hn ?_
         obtain ⟨r82,hr83,h79⟩:=bindM h79
         show CallOk Try.prog _ _ _ _
         refine cA (((run_machine_jump_c1_2_ok N (⟨(⟨a0.w.classes,a0.w.heap,a0.w.epoch⟩:Wd),a0.fuel,a0.sends,a0.turns,r61.2,a0.back,a0.err⟩:TMachine) gl gq ((wr ((a0.frames.length:Int) - (1:Int))).toNat) x4.a hgl hgq r82 hr83).sw 1005 510).sw 5 511) ?_
         refine A8 _ _ ?_
         exact jn ⟨_,sj h79⟩ []
        refine gos hn ?_
        obtain ⟨o91,h90,h79⟩:=bindM h79
        refine jk (ι:={ s // o91=s }) hn (fun s=>[]) (fun s=>[(1000,.box [.ptr 1001 0,.fn Kl [.fp cl_0],.fn Kq [.fp cq_0,.fp cq_1],.int s.1.1,.int s.1.2.1,.int s.1.2.2.1,.own 1003,.int s.1.2.2.2.1,.int s.1.2.2.2.2.1,.int s.1.2.2.2.2.2] 123)]) [(0,_)] [(510,_),(1001,_),(1002,_),(1003,_)] (fun _ A9 _ _=>?_) ?_
        ·refine goc hn ?_
         refine bselM h90 (fun hb92 h90=>?_) (fun hb92 h90=>?_)
         ·refine gok hn ?_
          refine A9 _ _ ?_
          exact jn ⟨_,sj h90⟩ []
         refine gor hn ?_
         obtain ⟨r93,hr94,h90⟩:=bindM h90
         show CallOk Try.prog _ _ _ _
         refine cA (run_machine_fail_c1_2_ok N (⟨(⟨a0.w.classes,a0.w.heap,a0.w.epoch⟩:Wd),a0.fuel,a0.sends,a0.turns,r61.2,a0.back,a0.err⟩:TMachine) gl gq (11:Int) hgl hgq r93 hr94) ?_
         refine A9 _ _ ?_
         exact jn ⟨_,sj h90⟩ []
        rintro ⟨⟨v84,v85,v86,v87,v88,v89⟩,rfl⟩
        refine A8 _ _ ?_
        exact jn ⟨_,sj h79⟩ [(511,510)]
       rintro ⟨⟨v72,v73,v74,v75,v76,v77,v78⟩,rfl⟩
       refine A7 _ _ ?_
       refine A6 _ _ ?_
       exact jn ⟨_,sj h70⟩ []
      rintro ⟨⟨v63,v64,v65,v66,v67,v68,v69⟩,rfl⟩
      refine A5 _ _ ?_
      refine EOk.gh (Gh.reidD 1001 1 1002 512 513 rfl rfl rfl rfl rfl rfl rfl rfl rfl rfl rfl rfl) (fun _=>?_)
      refine EOk.gh (Gh.reidD 1000 6 1003 514 515 rfl rfl rfl rfl rfl rfl rfl rfl rfl rfl rfl rfl) (fun _=>?_)
      exact jn ⟨_,sj h58⟩ [(516,512),(515,513),(88,514),(511,515)]
     refine gos hn ?_
     obtain ⟨o106,h105,h58⟩:=bindM h58
     refine jk (ι:={ s // o106=s }) hn (fun s=>[]) (fun s=>[(88,.deep 10 160 [(7,(2,27)),(8,(2,27))] (List.map eTFrame s.1.2.2.2.2.2.2.1) [] 517),(517,.gone),(519,.gone),(520,.deep 2 97 [(1,(2,27))] (List.map eOb s.1.2.1) [] 519),(1000,.box [.ptr 1001 0,.fn Kl [.fp cl_0],.fn Kq [.fp cq_0,.fp cq_1],.int s.1.2.2.2.1,.int s.1.2.2.2.2.1,.int s.1.2.2.2.2.2.1,.own 88,.int s.1.2.2.2.2.2.2.2.1,.int s.1.2.2.2.2.2.2.2.2.1,.int s.1.2.2.2.2.2.2.2.2.2] 123),(1001,.box [.sl 4 (List.map eCl s.1.1),.own 520,.int s.1.2.2.1] 25),(1002,.gone),(1003,.gone)]) [(0,_)] [] (fun _ A10 _ _=>?_) ?_
     ·refine goc hn ?_
      refine bselM h105 (fun hb107 h105=>?_) (fun hb107 h105=>?_)
      ·refine gos hn ?_
       obtain ⟨r108,hr109,h105⟩:=bindM h105
       show CallOk Try.prog _ _ _ _
       refine cA ((run_frame_pop_ok N (a0.frames.set ((wr ((a0.frames.length:Int) - (1:Int))).toNat) (⟨x2.class_,x2.method,x2.fast,x2.code,x2.self_,x2.args,x2.temps,x2.stack,(wr (x2.at_+(1:Int)))⟩:TFrame)) ((wr ((a0.frames.length:Int) - (1:Int))).toNat) r108 hr109).sw 5 516) ?_
       refine COk.seqQ fun _ A11 _ _=>?_
       refine kp [(0,_),(6,_)] [(6,_),(516,_),(1000,_),(1001,_),(1002,_),(1003,_)] ?_
       refine god hn (by kernel_rfl) ?_
       refine lenM (fun _=>?_)
       refine Or.inr ?_
       obtain ⟨hg111,h105⟩:=guardM h105
       refine takeM hg111 rfl rfl ?_
       refine A11 _ _ ?_
       refine gor hn ?_
       obtain ⟨r112,hr113,h105⟩:=bindM h105
       show CallOk Try.prog _ _ _ _
       refine cA ((((run_machine_give_c1_2_ok N (⟨(⟨a0.w.classes,a0.w.heap,a0.w.epoch⟩:Wd),a0.fuel,a0.sends,a0.turns,(r108.2.take (wr ((r108.2.length:Int) - (1:Int))).toNat),a0.back,a0.err⟩:TMachine) gl gq r108.1 hgl hgq r112 hr113).sw 1003 88).sw 1005 788).sw 5 517) ?_
       refine A10 _ _ ?_
       refine EOk.gh (Gh.reidD 1001 1 1002 518 519 rfl rfl rfl rfl rfl rfl rfl rfl rfl rfl rfl rfl) (fun _=>?_)
       exact jn ⟨_,sj h105⟩ [(520,518)]
      refine gos hn ?_
      obtain ⟨o125,h124,h105⟩:=bindM h105
      refine jk (ι:={ s // o125=s }) hn (fun s=>[]) (fun s=>[(520,.gone),(521,.gone),(522,.deep 2 97 [(1,(2,27))] (List.map eOb s.1.2.1) [] 521),(1000,.box [.ptr 1001 0,.fn Kl [.fp cl_0],.fn Kq [.fp cq_0,.fp cq_1],.int s.1.2.2.2.1,.int s.1.2.2.2.2.1,.int s.1.2.2.2.2.2.1,.own 1003,.int s.1.2.2.2.2.2.2.2.1,.int s.1.2.2.2.2.2.2.2.2.1,.int s.1.2.2.2.2.2.2.2.2.2] 123),(1001,.box [.sl 4 (List.map eCl s.1.1),.own 522,.int s.1.2.2.1] 25),(1002,.gone),(1003,.deep 10 160 [(7,(2,27)),(8,(2,27))] (List.map eTFrame s.1.2.2.2.2.2.2.1) [] 520)]) [(0,_)] [] (fun _ A12 _ _=>?_) ?_
      ·refine goc hn ?_
       refine bselM h124 (fun hb126 h124=>?_) (fun hb126 h124=>?_)
       ·refine gor hn ?_
        obtain ⟨r127,hr128,h124⟩:=bindM h124
        show CallOk Try.prog _ _ _ _
        refine cA ((run_machine_guard_c1_2_ok N (⟨(⟨a0.w.classes,a0.w.heap,a0.w.epoch⟩:Wd),a0.fuel,a0.sends,a0.turns,(a0.frames.set ((wr ((a0.frames.length:Int) - (1:Int))).toNat) (⟨x2.class_,x2.method,x2.fast,x2.code,x2.self_,x2.args,x2.temps,x2.stack,(wr (x2.at_+(1:Int)))⟩:TFrame)),a0.back,a0.err⟩:TMachine) gl gq ((wr ((a0.frames.length:Int) - (1:Int))).toNat) x4 hgl hgq r127 hr128).sw 5 520) ?_
        refine A12 _ _ ?_
        refine EOk.gh (Gh.reidD 1001 1 1002 521 522 rfl rfl rfl rfl rfl rfl rfl rfl rfl rfl rfl rfl) (fun _=>?_)
        exact jn ⟨_,sj h124⟩ [(522,521),(521,522)]
       refine gos hn ?_
       obtain ⟨o140,h139,h124⟩:=bindM h124
       refine jk (ι:={ s // o140=s }) hn (fun s=>[]) (fun s=>[(523,.gone),(524,.deep 2 97 [(1,(2,27))] (List.map eOb s.1.2.1) [] 523),(525,.gone),(1000,.box [.ptr 1001 0,.fn Kl [.fp cl_0],.fn Kq [.fp cq_0,.fp cq_1],.int s.1.2.2.2.1,.int s.1.2.2.2.2.1,.int s.1.2.2.2.2.2.1,.own 1003,.int s.1.2.2.2.2.2.2.2.1,.int s.1.2.2.2.2.2.2.2.2.1,.int s.1.2.2.2.2.2.2.2.2.2] 123),(1001,.box [.sl 4 (List.map eCl s.1.1),.own 524,.int s.1.2.2.1] 25),(1002,.gone),(1003,.deep 10 160 [(7,(2,27)),(8,(2,27))] (List.map eTFrame s.1.2.2.2.2.2.2.1) [] 525)]) [(0,_)] [] (fun _ A13 _ _=>?_) ?_
       ·refine goc hn ?_
        refine bselM h139 (fun hb141 h139=>?_) (fun hb141 h139=>?_)
        ·refine kp [(0,_)] [(1000,_),(1001,_),(1002,_),(1003,_)] ?_
         refine gor hn ?_
         obtain ⟨r142,hr143,h139⟩:=bindM h139
         show CallOk Try.prog _ _ _ _
         refine cA (run_machine_count_c1_2_ok N (⟨(⟨a0.w.classes,a0.w.heap,a0.w.epoch⟩:Wd),a0.fuel,a0.sends,a0.turns,(a0.frames.set ((wr ((a0.frames.length:Int) - (1:Int))).toNat) (⟨x2.class_,x2.method,x2.fast,x2.code,x2.self_,x2.args,x2.temps,x2.stack,(wr (x2.at_+(1:Int)))⟩:TFrame)),a0.back,a0.err⟩:TMachine) gl gq true hgl hgq r142 hr143) ?_
         refine A13 _ _ ?_
         refine EOk.gh (Gh.reidD 1001 1 1002 523 524 rfl rfl rfl rfl rfl rfl rfl rfl rfl rfl rfl rfl) (fun _=>?_)
         refine EOk.gh (Gh.resh 1003 525 rfl rfl rfl rfl) (fun _=>?_)
         exact jn ⟨_,sj h139⟩ [(524,523),(523,524)]
        refine kp [(0,_),(2,_),(4,_)] [(4,_),(1000,_),(1001,_),(1002,_),(1003,_)] ?_
        refine gor hn ?_
        obtain ⟨r144,hr145,h139⟩:=bindM h139
        show CallOk Try.prog _ _ _ _
        refine cA ((((run_machine_move_c1_2_ok N (⟨(⟨a0.w.classes,a0.w.heap,a0.w.epoch⟩:Wd),a0.fuel,a0.sends,a0.turns,(a0.frames.set ((wr ((a0.frames.length:Int) - (1:Int))).toNat) (⟨x2.class_,x2.method,x2.fast,x2.code,x2.self_,x2.args,x2.temps,x2.stack,(wr (x2.at_+(1:Int)))⟩:TFrame)),a0.back,a0.err⟩:TMachine) gl gq ((wr ((a0.frames.length:Int) - (1:Int))).toNat) x4 hgl hgq r144 hr145).sw 3 526).sw 2 527).sw 5 528) ?_
        refine A13 _ _ ?_
        exact jn ⟨_,sj h139⟩ [(524,527),(523,526),(525,528)]
       rintro ⟨⟨v129,v130,v131,v132,v133,v134,v135,v136,v137,v138⟩,rfl⟩
       refine A12 _ _ ?_
       exact jn ⟨_,sj h124⟩ [(522,524),(521,523),(520,525)]
      rintro ⟨⟨v114,v115,v116,v117,v118,v119,v120,v121,v122,v123⟩,rfl⟩
      refine A10 _ _ ?_
      refine EOk.gh (Gh.reidD 1000 6 1003 529 530 rfl rfl rfl rfl rfl rfl rfl rfl rfl rfl rfl rfl) (fun _=>?_)
      exact jn ⟨_,sj h105⟩ [(520,522),(519,521),(88,529),(517,530)]
     rintro ⟨⟨v95,v96,v97,v98,v99,v100,v101,v102,v103,v104⟩,rfl⟩
     refine A5 _ _ ?_
     exact jn ⟨_,sj h58⟩ [(516,520),(515,519),(511,517)]
    rintro ⟨⟨v48,v49,v50,v51,v52,v53,v54,v55,v56,v57⟩,rfl⟩
    refine A4 _ _ ?_
    exact jn ⟨_,sj h43⟩ [(512,516),(511,515),(505,511)]
   rintro ⟨⟨v33,v34,v35,v36,v37,v38,v39,v40,v41,v42⟩,rfl⟩
   refine A3 _ _ ?_
   exact jn ⟨_,sj h28⟩ [(510,512),(509,511),(502,88),(501,505)]
  rintro ⟨⟨v18,v19,v20,v21,v22,v23,v24,v25,v26,v27⟩,rfl⟩
  refine A2 _ _ ?_
  refine A1 _ _ ?_
  exact jn ⟨_,sj h16⟩ []
 rintro ⟨⟨v6,v7,v8,v9,v10,v11,v12,v13,v14,v15⟩,rfl⟩
 refine EOk.done ?_
 obtain rfl:=Option.some.inj h
 exact ⟨[(2,510),(3,509),(4,502),(5,501)],_,fm⟩

/- run.With -/
set_option maxRecDepth 100000 in
set_option maxHeartbeats 8000000 in
theorem run_With_c1_2_ok (N:Nat) (a0:Wd) (a1:TCall) (a2:Int) (g3:St→Int→ByteArray→Option (Int×Int)) (g4:Int→Int→Option (Fs×Bool)) {K3:Nat} {c3_0:List AV} (hg3:∀x0_ x1_ x2_ y_,g3 x0_ x1_ x2_=some y_→Spec Try.prog K3 [] [.agg (eSt x0_),.int x1_,.str x2_,.fp c3_0] (.tup [.int y_.1,.int y_.2]) [] []) {K4:Nat} {c4_0:List AV} {c4_1:List AV} (hg4:∀x0_ x1_ y_,g4 x0_ x1_=some y_→Spec Try.prog K4 [] [.int x0_,.int x1_,.fp c4_0,.fp c4_1] (.tup [.agg (eFs y_.1),.bool y_.2]) [] []) (r:(Wd×TRan)) (h:run_With N a0 a1 a2 g3 g4=some r):Spec Try.prog 25 [] [.agg (eWd a0),.agg (eTCall a1),.int a2,.fn K3 [.fp c3_0],.fn K4 [.fp c4_0,.fp c4_1]] (.tup [.agg (eWd r.1),.agg (eTRan r.2)]) [] []:=by
 refine Spec.of tabOk Try.func25 rfl Try.ntmps25 (by kernel_rfl) rfl rfl rfl fun Γ hn=>?_
 unfold run_With at h
 refine gos hn ?_
 refine COk.seqQ fun _ A0 _ R0=>?_
 refine gos hn ?_
 obtain ⟨r1,hr2,h⟩:=bindM h
 show CallOk Try.prog _ _ _ _
 refine cA (run_Wrong_ok N a0 a1 a2 r1 hr2) ?_
 refine gos hn ?_
 refine goc hn ?_
 refine bselM h (fun hb3 h=>?_) (fun hb3 h=>?_)
 ·refine gos hn ?_
  obtain ⟨r4,hr5,h⟩:=bindM h
  show CallOk Try.prog _ _ _ _
  refine cA (((class_Own_ok N a0 r4 hr5).sw 0 24).sw 1 724) ?_
  refine COk.fzAllD 24 rfl ?_
  refine got hn ?_
  refine R0 _ _ ?_
  obtain rfl:=Option.some.inj h
  exact ⟨[],_,fm⟩
 refine gok hn ?_
 refine A0 _ _ ?_
 refine gos hn ?_
 obtain ⟨r6,hr7,h⟩:=bindM h
 show CallOk Try.prog _ _ _ _
 refine cA (((class_Own_ok N a0 r6 hr7).sw 0 28).sw 1 728) ?_
 refine kp [(2,_),(3,_),(4,_),(5,_),(6,_),(10,_),(11,_),(13,_)] [(5,_),(6,_),(10,_),(11,_),(13,_),(28,_),(728,_)] ?_
 refine gos hn ?_
 refine COk.seqQ fun _ A1 _ _=>?_
 refine COk.seqQ fun _ A2 _ _=>?_
 refine god hn (by kernel_rfl) ?_
 obtain ⟨r8,hr9,h⟩:=bindM h
 show CallOk Try.prog _ _ _ _
 refine cD (value_Class_ok N r6.heap a1.self_ r8 hr9) ?_
 obtain ⟨r10,hr11,h⟩:=bindM h
 show CallOk Try.prog _ _ _ _
 refine cD (class_Find_ok N (⟨r6.classes,r6.heap,r6.epoch⟩:Wd) r8 a1.name r10 hr11) ?_
 refine A2 _ _ ?_
 refine kp [(5,_),(6,_),(10,_),(11,_),(13,_),(14,_),(15,_),(16,_)] [(5,_),(6,_),(10,_),(11,_),(13,_),(28,_),(33,_),(728,_)] ?_
 refine gos hn ?_
 refine COk.nilrowB 33 6 501 10 160 rfl rfl rfl rfl rfl rfl ?_
 refine COk.gh (Gh.toDeep 501 502 [(7,(2,27)),(8,(2,27))] rfl rfl rfl rfl) (fun _=>?_)
 obtain ⟨o20,h19,h⟩:=bindM h
 refine jk (ι:={ s // o20=s }) hn (fun s=>[]) (fun s=>[(33,.box [.ptr 13 0,.fn K3 [.fp c3_0],.fn K4 [.fp c4_0,.fp c4_1],.int s.1.1,.int s.1.2.1,.int s.1.2.2.1,.own 501,.int s.1.2.2.2.2.1,.int s.1.2.2.2.2.2.1,.int s.1.2.2.2.2.2.2] 123),(501,.deep 10 160 [(7,(2,27)),(8,(2,27))] (List.map eTFrame s.1.2.2.2.1) [] 502)]) [(5,_),(10,_),(11,_),(13,_),(14,_)] [(5,_),(10,_),(11,_),(13,_),(28,_),(502,_),(728,_)] (fun _ A3 _ _=>?_) ?_
 ·refine goc hn ?_
  refine bselM h19 (fun hb21 h19=>?_) (fun hb21 h19=>?_)
  ·refine gor hn ?_
   obtain ⟨r22,hr23,h19⟩:=bindM h19
   show CallOk Try.prog _ _ _ _
   refine cA ((((run_machine_fail_c1_2_ok N (⟨(⟨r6.classes,r6.heap,r6.epoch⟩:Wd),a2,(0:Int),(0:Int),([]:List TFrame),(⟨(0:Int),(0:Int)⟩:V),(0:Int)⟩:TMachine) g3 g4 (10:Int) hg3 hg4 r22 hr23).sw 1000 33).sw 1001 13).sw 1003 501) ?_
   refine A3 _ _ ?_
   exact jn ⟨_,sj h19⟩ []
  refine gor hn ?_
  obtain ⟨r24,hr25,h19⟩:=bindM h19
  show CallOk Try.prog _ _ _ _
  refine cA ((run_machine_enter_c1_2_ok N (⟨(⟨r6.classes,r6.heap,r6.epoch⟩:Wd),a2,(0:Int),(0:Int),([]:List TFrame),(⟨(0:Int),(0:Int)⟩:V),(0:Int)⟩:TMachine) g3 g4 r10.1 r10.2 a1.self_ a1.args hg3 hg4 r24 hr25).swl [(1000,33),(1001,13),(1003,501),(1002,28),(1005,502),(5,503),(4,504)] rfl) ?_
  refine A3 _ _ ?_
  exact jn ⟨_,sj h19⟩ [(501,504),(502,503)]
 rintro ⟨⟨v12,v13,v14,v15,v16,v17,v18⟩,rfl⟩
 refine A1 _ _ ?_
 refine COk.seqQ fun _ A4 _ _=>?_
 obtain ⟨o57,h58,h⟩:=bindM h
 refine jk (ι:={ s // o57=s }) hn (fun s=>[]) (fun s=>[(13,.box [.sl 4 (List.map eCl s.1.1),.own 28,.int s.1.2.2.1] 25),(28,.deep 2 97 [(1,(2,27))] (List.map eOb s.1.2.1) [] 728),(33,.box [.ptr 13 0,.fn K3 [.fp c3_0],.fn K4 [.fp c4_0,.fp c4_1],.int s.1.2.2.2.1,.int s.1.2.2.2.2.1,.int s.1.2.2.2.2.2.1,.own 501,.int s.1.2.2.2.2.2.2.2.1,.int s.1.2.2.2.2.2.2.2.2.1,.int s.1.2.2.2.2.2.2.2.2.2] 123),(501,.deep 10 160 [(7,(2,27)),(8,(2,27))] (List.map eTFrame s.1.2.2.2.2.2.2.1) [] 502)]) [(5,_),(10,_),(11,_),(13,_),(14,_)] [(5,_),(10,_),(11,_),(502,_),(728,_)] (fun _ A5 _ _=>?_) ?_
 ·refine COk.blkQ fun _ _ E6 _ _=>?_
  refine lq (ι:={ q:(Nat×(List Cl)×(List Ob)×Int×Int×Int×Int×(List TFrame)×Int×Int×Int) // run_With_l1 N g3 g4 q.1 q.2.1 q.2.2.1 q.2.2.2.1 q.2.2.2.2.1 q.2.2.2.2.2.1 q.2.2.2.2.2.2.1 q.2.2.2.2.2.2.2.1 q.2.2.2.2.2.2.2.2.1 q.2.2.2.2.2.2.2.2.2.1 q.2.2.2.2.2.2.2.2.2.2=some o57 }) hn (fun q=>[]) (fun q=>[(13,.box [.sl 4 (List.map eCl q.1.2.1),.own 28,.int q.1.2.2.2.1] 25),(28,.deep 2 97 [(1,(2,27))] (List.map eOb q.1.2.2.1) [] 728),(33,.box [.ptr 13 0,.fn K3 [.fp c3_0],.fn K4 [.fp c4_0,.fp c4_1],.int q.1.2.2.2.2.1,.int q.1.2.2.2.2.2.1,.int q.1.2.2.2.2.2.2.1,.own 501,.int q.1.2.2.2.2.2.2.2.2.1,.int q.1.2.2.2.2.2.2.2.2.2.1,.int q.1.2.2.2.2.2.2.2.2.2.2] 123),(501,.deep 10 160 [(7,(2,27)),(8,(2,27))] (List.map eTFrame q.1.2.2.2.2.2.2.2.1) [] 502)]) (fun q=>q.1.1) [(5,_),(10,_),(11,_),(13,_),(14,_)] [(5,_),(10,_),(11,_),(502,_),(728,_)] ⟨(N,r6.classes,r6.heap,r6.epoch,v12,v13,v14,v15,v16,v17,v18),h58⟩ [] ?_
  rintro ⟨⟨n_,v27,v28,v29,v30,v31,v32,v33,v34,v35,v36⟩,h58⟩ _ A7 X7 _
  rcases n_ with _|n61
  ·rw [run_With_l1.eq_1] at h58
   cases h58
  ·replace h58:=(run_With_l1.eq_2 _ _ _ _ _ _ _ _ _ _ _ _ _ _).symm.trans h58
   refine COk.seqQ fun _ A8 X8 _=>?_
   refine COk.seqQ fun _ A9 _ _=>?_
   obtain ⟨o64,h63,h58⟩:=bindM h58
   refine jk (ι:={ s // o64=s }) hn (fun s=>[(70,.bool s.1)]) (fun s=>[]) [(5,_),(10,_),(11,_),(13,_),(14,_)] [(5,_),(10,_),(11,_),(13,_),(28,_),(33,_),(501,_),(502,_),(728,_)] (fun _ A10 _ _=>?_) ?_
   ·refine gor hn ?_
    refine bselM h63 (fun hb65 h63=>?_) (fun hb65 h63=>?_)
    ·refine bselT hb65 ?_
     refine bselT hb65 ?_
     refine bselT hb65 ?_
     refine bselT hb65 ?_
     refine lenM (fun _=>?_)
     refine bselT hb65 ?_
     refine bselT hb65 ?_
     refine A10 _ _ ?_
     exact jn ⟨_,sj h63⟩ []
    refine bselF hb65 ?_
    refine bselF hb65 ?_
    refine bselF hb65 ?_
    refine bselF hb65 ?_
    refine bselF hb65 ?_
    refine bselF hb65 ?_
    refine A10 _ _ ?_
    exact jn ⟨_,sj h63⟩ []
   rintro ⟨v62,hv_⟩
   replace hv_:=hv_.symm
   subst hv_
   refine A9 _ _ ?_
   refine goc hn ?_
   refine bselM h58 (fun hb67 h58=>?_) (fun hb67 h58=>?_)
   ·refine gok hn ?_
    refine A8 _ _ ?_
    refine COk.blkQ fun _ A11 _ _ _=>?_
    refine gor hn ?_
    obtain ⟨r68,hr69,h58⟩:=bindM h58
    show CallOk Try.prog _ _ _ _
    refine cA ((run_machine_step_c1_2_ok N (⟨(⟨v27,v28,v29⟩:Wd),v30,v31,v32,v33,(⟨v34,v35⟩:V),v36⟩:TMachine) g3 g4 hg3 hg4 r68 hr69).swl [(1000,33),(1001,13),(1003,501),(1002,28),(1004,728),(1005,502),(3,505),(2,506),(5,507),(4,508)] rfl) ?_
    refine A11 _ _ ?_
    refine A7 _ _ ?_
    exact jn ⟨(n61,r68.w.classes,r68.w.heap,r68.w.epoch,r68.fuel,r68.sends,r68.turns,r68.frames,r68.back.k,r68.back.n,r68.err),h58⟩ [(28,506),(728,505),(501,508),(502,507)] (by show n61 < n61+1; omega)
   refine goe hn ?_
   refine X8 _ _ _ ?_
   refine X7 _ _ _ ?_
   refine E6 _ _ ?_
   refine A5 _ _ ?_
   exact jn ⟨_,sj h58⟩ []
 rintro ⟨⟨v47,v48,v49,v50,v51,v52,v53,v54,v55,v56⟩,rfl⟩
 refine A4 _ _ ?_
 refine COk.seqQ fun _ A12 _ R12=>?_
 refine gos hn ?_
 refine goc hn ?_
 refine bselM h (fun hb70 h=>?_) (fun hb70 h=>?_)
 ·refine COk.seqQ fun _ A13 _ _=>?_
  refine god hn (by kernel_rfl) ?_
  obtain ⟨r71,hr72,h⟩:=bindM h
  show CallOk Try.prog _ _ _ _
  refine cA (((class_Own_ok N a0 r71 hr72).sw 0 79).sw 1 779) ?_
  refine A13 _ _ ?_
  refine COk.fzAllD 79 rfl ?_
  refine got hn ?_
  refine R12 _ _ ?_
  obtain rfl:=Option.some.inj h
  exact ⟨[],_,fm⟩
 refine gok hn ?_
 refine A12 _ _ ?_
 refine COk.seqQ fun _ A14 _ _=>?_
 refine god hn (by kernel_rfl) ?_
 refine A14 _ _ ?_
 refine COk.fzAllD 28 rfl ?_
 refine got hn ?_
 obtain rfl:=Option.some.inj h
 exact ⟨[],_,fm⟩

/- tally.Most -/
set_option maxRecDepth 100000 in
set_option maxHeartbeats 8000000 in
theorem tally_Most_ok (N:Nat) (a0:(List Tl)) (a1:St) (r:(Int×Int)) (h:tally_Most N a0 a1=some r):Spec Try.prog 125 [] [.sl 4 (List.map eTl a0),.agg (eSt a1)] (.tup [.int r.1,.int r.2]) [] []:=by
 refine Spec.of tabOk Try.func125 rfl Try.ntmps125 (by kernel_rfl) rfl rfl rfl fun Γ hn=>?_
 unfold tally_Most at h
 refine gos hn ?_
 refine gos hn ?_
 refine COk.seqQ fun _ A0 _ _=>?_
 refine gos hn ?_
 refine lenM (fun hl1=>?_)
 obtain ⟨o9,h10,h⟩:=bindM h
 refine jk (ι:={ s // o9=s }) hn (fun s=>[(6,.int s.1.1),(7,.int s.1.2)]) (fun s=>[]) [] [] (fun _ A1 _ _=>?_) ?_
 ·refine COk.blkQ fun _ _ E2 _ _=>?_
  refine lq (ι:={ q:((List Tl)×Nat×Int×Int) // q.1=a0.drop q.2.1∧tally_Most_l1 N a1 q.1 q.2.1 q.2.2.1 q.2.2.2=some o9 }) hn (fun q=>[(6,.int q.1.2.2.1),(7,.int q.1.2.2.2),(14,.int (q.1.2.1:Int))]) (fun q=>[]) (fun q=>q.1.1.length) [(3,_),(12,_),(13,_)] [(3,_)] ⟨(a0,0,(-1:Int),(0:Int)),rfl,h10⟩ [] ?_
  rintro ⟨⟨rest_,k2,v3,v4⟩,hd12,h10⟩ _ A3 X3 _
  replace hd12:rest_=a0.drop k2:=hd12
  rcases rest_ with _|⟨x14,rest11⟩
  ·have hlt16:=restNil hd12
   replace h10:=(tally_Most_l1.eq_1 _ _ _ _ _).symm.trans h10
   refine gos hn ?_
   refine COk.seqQ fun _ _ X4 _=>?_
   refine goc hn ?_
   refine bselF hlt16 ?_
   refine goe hn ?_
   refine X4 _ _ _ ?_
   refine X3 _ _ _ ?_
   refine E2 _ _ ?_
   refine A1 _ _ ?_
   exact jn ⟨_,sj h10⟩ []
  ·obtain ⟨hx15,hd2,hlt16⟩:=restCons hd12
   replace h10:=(tally_Most_l1.eq_2 _ _ _ _ _ _ _).symm.trans h10
   refine gos hn ?_
   refine COk.seqQ fun _ A5 _ _=>?_
   refine goc hn ?_
   refine bselT hlt16 ?_
   refine gok hn ?_
   refine A5 _ _ ?_
   refine COk.seqQ fun _ A6 _ _=>?_
   obtain ⟨o20,h19,h10⟩:=bindM h10
   refine jk (ι:={ s // o20=s }) hn (fun s=>[(6,.int s.1.1),(7,.int s.1.2)]) (fun s=>[]) [(3,_),(12,_),(13,_),(14,_)] [(3,_)] (fun _ A7 _ _=>?_) ?_
   ·refine COk.blkQ fun _ A8 E8 _ _=>?_
    refine gos hn ?_
    refine idxK hx15 ?_
    refine COk.seqQ fun _ A9 X9 _=>?_
    refine gos hn ?_
    refine goc hn ?_
    refine bselM h19 (fun hb21 h19=>?_) (fun hb21 h19=>?_)
    ·refine goe hn ?_
     refine X9 _ _ _ ?_
     refine E8 _ _ ?_
     refine A7 _ _ ?_
     exact jn ⟨_,sj h19⟩ []
    refine gok hn ?_
    refine A9 _ _ ?_
    refine gos hn ?_
    refine lenM (fun hl22=>?_)
    obtain ⟨o30,h31,h19⟩:=bindM h19
    refine jk (ι:={ s // o30=s }) hn (fun s=>[(6,.int s.1.1),(7,.int s.1.2)]) (fun s=>[]) [(3,_),(12,_),(13,_),(14,_)] [(3,_)] (fun _ A10 _ _=>?_) ?_
    ·refine COk.blkQ fun _ _ E11 _ _=>?_
     refine lq (ι:={ q:((List Ln)×Nat×Int×Int) // q.1=x14.classes.drop q.2.1∧tally_Most_l2 N q.1 q.2.1 q.2.2.1 q.2.2.2=some o30 }) hn (fun q=>[(6,.int q.1.2.2.1),(7,.int q.1.2.2.2),(25,.int (q.1.2.1:Int))]) (fun q=>[]) (fun q=>q.1.1.length) [(3,_),(12,_),(13,_),(14,_),(23,_),(24,_)] [(3,_)] ⟨(x14.classes,0,v3,v4),rfl,h31⟩ [] ?_
     rintro ⟨⟨rest_,k23,v24,v25⟩,hd33,h31⟩ _ A12 X12 _
     replace hd33:rest_=x14.classes.drop k23:=hd33
     rcases rest_ with _|⟨x35,rest32⟩
     ·have hlt37:=restNil hd33
      replace h31:=(tally_Most_l2.eq_1 _ _ _ _).symm.trans h31
      refine gos hn ?_
      refine COk.seqQ fun _ _ X13 _=>?_
      refine goc hn ?_
      refine bselF hlt37 ?_
      refine goe hn ?_
      refine X13 _ _ _ ?_
      refine X12 _ _ _ ?_
      refine E11 _ _ ?_
      refine A10 _ _ ?_
      exact jn ⟨_,sj h31⟩ []
     ·obtain ⟨hx36,hd2,hlt37⟩:=restCons hd33
      replace h31:=(tally_Most_l2.eq_2 _ _ _ _ _ _).symm.trans h31
      refine gos hn ?_
      refine COk.seqQ fun _ A14 _ _=>?_
      refine goc hn ?_
      refine bselT hlt37 ?_
      refine gok hn ?_
      refine A14 _ _ ?_
      refine COk.seqQ fun _ A15 _ _=>?_
      obtain ⟨o41,h40,h31⟩:=bindM h31
      refine jk (ι:={ s // o41=s }) hn (fun s=>[(6,.int s.1.1),(7,.int s.1.2)]) (fun s=>[]) [(3,_),(12,_),(13,_),(14,_),(23,_),(24,_),(25,_)] [(3,_)] (fun _ A16 _ _=>?_) ?_
      ·refine COk.blkQ fun _ A17 _ _ _=>?_
       refine gos hn ?_
       refine idxK hx36 ?_
       refine COk.seqQ fun _ A18 _ _=>?_
       obtain ⟨o44,h43,h40⟩:=bindM h40
       refine jk (ι:={ s // o44=s }) hn (fun s=>[(48,.bool s.1)]) (fun s=>[]) [(3,_),(6,_),(7,_),(11,_),(12,_),(13,_),(14,_),(23,_),(24,_),(25,_)] [(3,_),(11,_)] (fun _ A19 _ _=>?_) ?_
       ·refine gor hn ?_
        refine bselM h43 (fun hb45 h43=>?_) (fun hb45 h43=>?_)
        ·refine bselT hb45 ?_
         refine bselT hb45 ?_
         refine bselT hb45 ?_
         refine bselT hb45 ?_
         refine bselT hb45 ?_
         refine bselT hb45 ?_
         refine bselT hb45 ?_
         refine bselT hb45 ?_
         refine A19 _ _ ?_
         exact jn ⟨_,sj h43⟩ []
        refine bselF hb45 ?_
        refine bselF hb45 ?_
        refine bselF hb45 ?_
        refine bselF hb45 ?_
        refine bselM h43 (fun hb46 h43=>?_) (fun hb46 h43=>?_)
        ·refine bselT hb46 ?_
         refine bselF hb45 ?_
         refine bselT hb46 ?_
         refine bselF hb45 ?_
         refine bselM h43 (fun hb47 h43=>?_) (fun hb47 h43=>?_)
         ·refine bselT hb47 ?_
          refine bselT hb47 ?_
          refine bselT hb47 ?_
          refine bselF hb45 ?_
          refine bselT hb47 ?_
          refine bselF hb45 ?_
          refine A19 _ _ ?_
          exact jn ⟨_,sj h43⟩ []
         refine bselF hb47 ?_
         refine bselF hb47 ?_
         refine bselF hb47 ?_
         refine bselF hb45 ?_
         refine bselF hb47 ?_
         refine bselF hb45 ?_
         refine A19 _ _ ?_
         exact jn ⟨_,sj h43⟩ []
        refine bselF hb46 ?_
        refine bselF hb45 ?_
        refine bselF hb46 ?_
        refine bselF hb45 ?_
        refine bselF hb45 ?_
        refine bselF hb45 ?_
        refine A19 _ _ ?_
        exact jn ⟨_,sj h43⟩ []
       rintro ⟨v42,hv_⟩
       replace hv_:=hv_.symm
       subst hv_
       refine A18 _ _ ?_
       obtain ⟨o51,h50,h40⟩:=bindM h40
       refine jk (ι:={ s // o51=s }) hn (fun s=>[(6,.int s.1.1),(7,.int s.1.2)]) (fun s=>[]) [(3,_),(12,_),(13,_),(14,_),(23,_),(24,_),(25,_)] [(3,_)] (fun _ A20 _ _=>?_) ?_
       ·refine goc hn ?_
        refine bselM h50 (fun hb52 h50=>?_) (fun hb52 h50=>?_)
        ·refine god hn (by kernel_rfl) ?_
         refine A20 _ _ ?_
         exact jn ⟨_,sj h50⟩ []
        refine gok hn ?_
        refine A20 _ _ ?_
        exact jn ⟨_,sj h50⟩ []
       rintro ⟨⟨v48,v49⟩,rfl⟩
       refine A17 _ _ ?_
       refine A16 _ _ ?_
       exact jn ⟨_,sj h40⟩ []
      rintro ⟨⟨v38,v39⟩,rfl⟩
      refine A15 _ _ ?_
      refine gor hn ?_
      refine Or.inl (And.intro (inrK hx36 hl22) ?_)
      refine A12 _ _ ?_
      exact jn ⟨(rest32,k23+1,v38,v39),hd2,h31⟩ [] (by show rest32.length < rest32.length+1; omega)
    rintro ⟨⟨v28,v29⟩,rfl⟩
    refine A8 _ _ ?_
    refine A7 _ _ ?_
    exact jn ⟨_,sj h19⟩ []
   rintro ⟨⟨v17,v18⟩,rfl⟩
   refine A6 _ _ ?_
   refine gor hn ?_
   refine Or.inl (And.intro (inrK hx15 hl1) ?_)
   refine A3 _ _ ?_
   exact jn ⟨(rest11,k2+1,v17,v18),hd2,h10⟩ [] (by show rest11.length < rest11.length+1; omega)
 rintro ⟨⟨v7,v8⟩,rfl⟩
 refine A0 _ _ ?_
 refine gos hn ?_
 refine got hn ?_
 obtain rfl:=Option.some.inj h
 exact ⟨[],_,fm⟩

/- tally.All -/
set_option maxRecDepth 100000 in
set_option maxHeartbeats 8000000 in
theorem tally_All_ok (N:Nat) (a0:(List Tl)) (a1:St) (r:Int) (h:tally_All N a0 a1=some r):Spec Try.prog 126 [] [.sl 4 (List.map eTl a0),.agg (eSt a1)] (.int r) [] []:=by
 refine Spec.of tabOk Try.func126 rfl Try.ntmps126 (by kernel_rfl) rfl rfl rfl fun Γ hn=>?_
 unfold tally_All at h
 refine gos hn ?_
 refine gos hn ?_
 refine COk.seqQ fun _ A0 _ _=>?_
 refine gos hn ?_
 refine lenM (fun hl1=>?_)
 obtain ⟨o6,h7,h⟩:=bindM h
 refine jk (ι:={ s // o6=s }) hn (fun s=>[(5,.int s.1)]) (fun s=>[]) [] [] (fun _ A1 _ _=>?_) ?_
 ·refine COk.blkQ fun _ _ E2 _ _=>?_
  refine lq (ι:={ q:((List Tl)×Nat×Int) // q.1=a0.drop q.2.1∧tally_All_l1 N a1 q.1 q.2.1 q.2.2=some o6 }) hn (fun q=>[(5,.int q.1.2.2),(12,.int (q.1.2.1:Int))]) (fun q=>[]) (fun q=>q.1.1.length) [(3,_),(10,_),(11,_)] [(3,_)] ⟨(a0,0,(0:Int)),rfl,h7⟩ [] ?_
  rintro ⟨⟨rest_,k2,v3⟩,hd9,h7⟩ _ A3 X3 _
  replace hd9:rest_=a0.drop k2:=hd9
  rcases rest_ with _|⟨x11,rest8⟩
  ·have hlt13:=restNil hd9
   replace h7:=(tally_All_l1.eq_1 _ _ _ _).symm.trans h7
   refine gos hn ?_
   refine COk.seqQ fun _ _ X4 _=>?_
   refine goc hn ?_
   refine bselF hlt13 ?_
   refine goe hn ?_
   refine X4 _ _ _ ?_
   refine X3 _ _ _ ?_
   refine E2 _ _ ?_
   refine A1 _ _ ?_
   exact jn ⟨_,sj h7⟩ []
  ·obtain ⟨hx12,hd2,hlt13⟩:=restCons hd9
   replace h7:=(tally_All_l1.eq_2 _ _ _ _ _ _).symm.trans h7
   refine gos hn ?_
   refine COk.seqQ fun _ A5 _ _=>?_
   refine goc hn ?_
   refine bselT hlt13 ?_
   refine gok hn ?_
   refine A5 _ _ ?_
   refine COk.seqQ fun _ A6 _ _=>?_
   obtain ⟨o16,h15,h7⟩:=bindM h7
   refine jk (ι:={ s // o16=s }) hn (fun s=>[(5,.int s.1)]) (fun s=>[]) [(3,_),(10,_),(11,_),(12,_)] [(3,_)] (fun _ A7 _ _=>?_) ?_
   ·refine COk.blkQ fun _ A8 E8 _ _=>?_
    refine gos hn ?_
    refine idxK hx12 ?_
    refine COk.seqQ fun _ A9 X9 _=>?_
    refine gos hn ?_
    refine goc hn ?_
    refine bselM h15 (fun hb17 h15=>?_) (fun hb17 h15=>?_)
    ·refine goe hn ?_
     refine X9 _ _ _ ?_
     refine E8 _ _ ?_
     refine A7 _ _ ?_
     exact jn ⟨_,sj h15⟩ []
    refine gok hn ?_
    refine A9 _ _ ?_
    refine gos hn ?_
    refine lenM (fun hl18=>?_)
    obtain ⟨o23,h24,h15⟩:=bindM h15
    refine jk (ι:={ s // o23=s }) hn (fun s=>[(5,.int s.1)]) (fun s=>[]) [(3,_),(10,_),(11,_),(12,_)] [(3,_)] (fun _ A10 _ _=>?_) ?_
    ·refine COk.blkQ fun _ _ E11 _ _=>?_
     refine lq (ι:={ q:((List Ln)×Nat×Int) // q.1=x11.classes.drop q.2.1∧tally_All_l2 N q.1 q.2.1 q.2.2=some o23 }) hn (fun q=>[(5,.int q.1.2.2),(23,.int (q.1.2.1:Int))]) (fun q=>[]) (fun q=>q.1.1.length) [(3,_),(10,_),(11,_),(12,_),(21,_),(22,_)] [(3,_)] ⟨(x11.classes,0,v3),rfl,h24⟩ [] ?_
     rintro ⟨⟨rest_,k19,v20⟩,hd26,h24⟩ _ A12 X12 _
     replace hd26:rest_=x11.classes.drop k19:=hd26
     rcases rest_ with _|⟨x28,rest25⟩
     ·have hlt30:=restNil hd26
      replace h24:=(tally_All_l2.eq_1 _ _ _).symm.trans h24
      refine gos hn ?_
      refine COk.seqQ fun _ _ X13 _=>?_
      refine goc hn ?_
      refine bselF hlt30 ?_
      refine goe hn ?_
      refine X13 _ _ _ ?_
      refine X12 _ _ _ ?_
      refine E11 _ _ ?_
      refine A10 _ _ ?_
      exact jn ⟨_,sj h24⟩ []
     ·obtain ⟨hx29,hd2,hlt30⟩:=restCons hd26
      replace h24:=(tally_All_l2.eq_2 _ _ _ _ _).symm.trans h24
      refine gos hn ?_
      refine COk.seqQ fun _ A14 _ _=>?_
      refine goc hn ?_
      refine bselT hlt30 ?_
      refine gok hn ?_
      refine A14 _ _ ?_
      refine COk.seqQ fun _ A15 _ _=>?_
      refine COk.blkQ fun _ A16 _ _ _=>?_
      refine gos hn ?_
      refine idxK hx29 ?_
      refine gor hn ?_
      refine Or.inr ?_
      refine A16 _ _ ?_
      refine A15 _ _ ?_
      refine gor hn ?_
      refine Or.inl (And.intro (inrK hx29 hl18) ?_)
      refine A12 _ _ ?_
      exact jn ⟨(rest25,k19+1,(wr (v20+x28.found))),hd2,h24⟩ [] (by show rest25.length < rest25.length+1; omega)
    rintro ⟨v22,hv_⟩
    replace hv_:=hv_.symm
    subst hv_
    refine A8 _ _ ?_
    refine A7 _ _ ?_
    exact jn ⟨_,sj h15⟩ []
   rintro ⟨v14,hv_⟩
   replace hv_:=hv_.symm
   subst hv_
   refine A6 _ _ ?_
   refine gor hn ?_
   refine Or.inl (And.intro (inrK hx12 hl1) ?_)
   refine A3 _ _ ?_
   exact jn ⟨(rest8,k2+1,v14),hd2,h7⟩ [] (by show rest8.length < rest8.length+1; omega)
 rintro ⟨v5,hv_⟩
 replace hv_:=hv_.symm
 subst hv_
 refine A0 _ _ ?_
 refine gos hn ?_
 refine got hn ?_
 obtain rfl:=Option.some.inj h
 exact ⟨[],_,fm⟩

/- choose.Site -/
set_option maxRecDepth 100000 in
set_option maxHeartbeats 8000000 in
theorem choose_Site_ok (N:Nat) (a0:Wd) (a1:(List Tl)) (a2:St) (a3:ByteArray) (a4:Int) (r:Int) (h:choose_Site N a0 a1 a2 a3 a4=some r):Spec Try.prog 106 [] [.agg (eWd a0),.sl 4 (List.map eTl a1),.agg (eSt a2),.str a3,.int a4] (.int r) [] []:=by
 refine Spec.of tabOk Try.func106 rfl Try.ntmps106 (by kernel_rfl) rfl rfl rfl fun Γ hn=>?_
 unfold choose_Site at h
 refine gos hn ?_
 refine gos hn ?_
 obtain ⟨r1,hr2,h⟩:=bindM h
 show CallOk Try.prog _ _ _ _
 refine cA (tally_Most_ok N a1 a2 r1 hr2) ?_
 refine COk.seqQ fun _ A0 _ R0=>?_
 refine gos hn ?_
 obtain ⟨r3,hr4,h⟩:=bindM h
 show CallOk Try.prog _ _ _ _
 refine cA (tally_All_ok N a1 a2 r3 hr4) ?_
 refine COk.seqQ fun _ A1 _ _=>?_
 obtain ⟨o7,h6,h⟩:=bindM h
 refine jk (ι:={ s // o7=s }) hn (fun s=>[(36,.bool s.1)]) (fun s=>[]) [(3,_),(4,_),(5,_),(11,_)] [(5,_)] (fun _ A2 _ _=>?_) ?_
 ·refine kp [(3,_),(4,_),(5,_),(11,_),(12,_),(13,_)] [(5,_)] ?_
  refine gor hn ?_
  refine bselM h6 (fun hb8 h6=>?_) (fun hb8 h6=>?_)
  ·refine bselT hb8 ?_
   refine bselT hb8 ?_
   refine A2 _ _ ?_
   exact jn ⟨_,sj h6⟩ []
  refine bselF hb8 ?_
  refine bselF hb8 ?_
  refine bselM h6 (fun hb9 h6=>?_) (fun hb9 h6=>?_)
  ·refine bselT hb9 ?_
   refine bselT hb9 ?_
   refine bselT hb9 ?_
   refine bselT hb9 ?_
   refine A2 _ _ ?_
   exact jn ⟨_,sj h6⟩ []
  refine bselF hb9 ?_
  refine Or.inr ?_
  refine bselF hb9 ?_
  refine bselF hb9 ?_
  refine bselF hb9 ?_
  refine A2 _ _ ?_
  exact jn ⟨_,sj h6⟩ []
 rintro ⟨v5,hv_⟩
 replace hv_:=hv_.symm
 subst hv_
 refine A1 _ _ ?_
 refine goc hn ?_
 refine bselM h (fun hb10 h=>?_) (fun hb10 h=>?_)
 ·refine gos hn ?_
  refine got hn ?_
  refine R0 _ _ ?_
  obtain rfl:=Option.some.inj h
  exact ⟨[],_,fm⟩
 refine gok hn ?_
 refine A0 _ _ ?_
 refine gos hn ?_
 obtain ⟨r11,hr12,h⟩:=bindM h
 show CallOk Try.prog _ _ _ _
 refine cA (class_Find_ok N a0 r1.1 a3 r11 hr12) ?_
 refine COk.seqQ fun _ A3 _ R3=>?_
 refine COk.seqQ fun _ A4 _ _=>?_
 obtain ⟨o15,h14,h⟩:=bindM h
 refine jk (ι:={ s // o15=s }) hn (fun s=>[(72,.bool s.1)]) (fun s=>[]) [(11,_)] [] (fun _ A5 _ _=>?_) ?_
 ·refine gor hn ?_
  refine bselM h14 (fun hb16 h14=>?_) (fun hb16 h14=>?_)
  ·refine bselT hb16 ?_
   refine bselT hb16 ?_
   refine bselT hb16 ?_
   refine bselT hb16 ?_
   refine bselT hb16 ?_
   refine bselT hb16 ?_
   refine bselT hb16 ?_
   refine bselT hb16 ?_
   refine bselT hb16 ?_
   refine bselT hb16 ?_
   refine bselT hb16 ?_
   refine A5 _ _ ?_
   exact jn ⟨_,sj h14⟩ []
  refine bselF hb16 ?_
  refine bselF hb16 ?_
  refine bselF hb16 ?_
  obtain ⟨x17,hx18,h14⟩:=bindM h14
  refine idxM hx18 ?_
  refine bselF hb16 ?_
  refine bselF hb16 ?_
  refine bselF hb16 ?_
  refine bselF hb16 ?_
  obtain ⟨x19,hx20,h14⟩:=bindM h14
  refine idxM hx20 ?_
  refine bselF hb16 ?_
  refine bselF hb16 ?_
  obtain ⟨r21,hr22,h14⟩:=bindM h14
  show CallOk Try.prog _ _ _ _
  refine cA (choose_Leaf_ok N x19 r21 hr22) ?_
  refine bselF hb16 ?_
  refine bselF hb16 ?_
  refine bselM h14 (fun hb23 h14=>?_) (fun hb23 h14=>?_)
  ·refine bselT hb23 ?_
   refine bselT hb23 ?_
   refine bselT hb23 ?_
   refine bselT hb23 ?_
   refine bselT hb23 ?_
   refine bselT hb23 ?_
   refine bselT hb23 ?_
   refine bselT hb23 ?_
   refine bselT hb23 ?_
   refine bselT hb23 ?_
   refine bselT hb23 ?_
   refine bselT hb23 ?_
   refine A5 _ _ ?_
   exact jn ⟨_,sj h14⟩ []
  refine bselF hb23 ?_
  refine bselF hb23 ?_
  refine bselF hb23 ?_
  obtain ⟨x24,hx25,h14⟩:=bindM h14
  refine idxM hx25 ?_
  refine bselF hb23 ?_
  refine bselF hb23 ?_
  refine bselF hb23 ?_
  refine bselF hb23 ?_
  obtain ⟨x26,hx27,h14⟩:=bindM h14
  refine idxM hx27 ?_
  refine bselF hb23 ?_
  refine bselF hb23 ?_
  refine bselF hb23 ?_
  refine bselF hb23 ?_
  refine bselF hb23 ?_
  refine A5 _ _ ?_
  exact jn ⟨_,sj h14⟩ []
 rintro ⟨v13,hv_⟩
 replace hv_:=hv_.symm
 subst hv_
 refine A4 _ _ ?_
 refine goc hn ?_
 refine bselM h (fun hb28 h=>?_) (fun hb28 h=>?_)
 ·refine gos hn ?_
  refine got hn ?_
  refine R3 _ _ ?_
  obtain rfl:=Option.some.inj h
  exact ⟨[],_,fm⟩
 refine gok hn ?_
 refine A3 _ _ ?_
 refine gos hn ?_
 refine got hn ?_
 obtain rfl:=Option.some.inj h
 exact ⟨[],_,fm⟩

/- choose.Sites -/
set_option maxRecDepth 100000 in
set_option maxHeartbeats 8000000 in
theorem choose_Sites_ok (N:Nat) (a0:Wd) (a1:(List Tl)) (a2:Int) (a3:Int) (r:(List Int)) (h:choose_Sites N a0 a1 a2 a3=some r):Spec Try.prog 77 [] [.agg (eWd a0),.sl 4 (List.map eTl a1),.int a2,.int a3] (.own 0) [(0,.row 1 (List.map eInt r) 3)] [0]:=by
 refine Spec.of tabOk Try.func77 rfl Try.ntmps77 (by kernel_rfl) rfl rfl rfl fun Γ hn=>?_
 unfold choose_Sites at h
 refine gos hn ?_
 refine COk.seqQ fun _ A0 _ R0=>?_
 refine COk.seqQ fun _ A1 _ _=>?_
 obtain ⟨o3,h2,h⟩:=bindM h
 refine jk (ι:={ s // o3=s }) hn (fun s=>[(37,.bool s.1)]) (fun s=>[]) [(1,_),(2,_),(3,_),(4,_)] [(4,_)] (fun _ A2 _ _=>?_) ?_
 ·refine gor hn ?_
  refine bselM h2 (fun hb4 h2=>?_) (fun hb4 h2=>?_)
  ·refine bselT hb4 ?_
   refine bselT hb4 ?_
   refine bselT hb4 ?_
   refine bselT hb4 ?_
   refine bselT hb4 ?_
   refine A2 _ _ ?_
   exact jn ⟨_,sj h2⟩ []
  refine bselF hb4 ?_
  refine bselF hb4 ?_
  refine bselF hb4 ?_
  refine lenM (fun _=>?_)
  refine bselF hb4 ?_
  refine bselF hb4 ?_
  refine bselM h2 (fun hb6 h2=>?_) (fun hb6 h2=>?_)
  ·refine bselT hb6 ?_
   refine bselT hb6 ?_
   refine A2 _ _ ?_
   exact jn ⟨_,sj h2⟩ []
  refine bselF hb6 ?_
  refine bselF hb6 ?_
  refine bselM h2 (fun hb7 h2=>?_) (fun hb7 h2=>?_)
  ·refine bselT hb7 ?_
   refine bselT hb7 ?_
   refine bselT hb7 ?_
   refine bselT hb7 ?_
   refine bselT hb7 ?_
   refine bselT hb7 ?_
   refine bselT hb7 ?_
   refine bselT hb7 ?_
   refine bselT hb7 ?_
   refine A2 _ _ ?_
   exact jn ⟨_,sj h2⟩ []
  refine bselF hb7 ?_
  refine bselF hb7 ?_
  refine bselF hb7 ?_
  refine bselF hb7 ?_
  obtain ⟨x8,hx9,h2⟩:=bindM h2
  refine idxM hx9 ?_
  refine bselF hb7 ?_
  refine bselF hb7 ?_
  refine bselF hb7 ?_
  refine lenM (fun _=>?_)
  refine bselF hb7 ?_
  refine bselF hb7 ?_
  refine A2 _ _ ?_
  exact jn ⟨_,sj h2⟩ []
 rintro ⟨v1,hv_⟩
 replace hv_:=hv_.symm
 subst hv_
 refine A1 _ _ ?_
 refine goc hn ?_
 refine bselM h (fun hb11 h=>?_) (fun hb11 h=>?_)
 ·refine gos hn ?_
  refine COk.nilrow 8 208 1 3 rfl rfl rfl ?_
  refine got hn ?_
  refine R0 _ _ ?_
  obtain rfl:=Option.some.inj h
  exact ⟨[(0,208)],_,fm⟩
 refine gok hn ?_
 refine A0 _ _ ?_
 refine gos hn ?_
 obtain ⟨x12,hx13,h⟩:=bindM h
 refine idxM hx13 ?_
 obtain ⟨x14,hx15,h⟩:=bindM h
 refine idxM hx15 ?_
 refine gos hn ?_
 refine COk.seqQ fun _ A3 _ _=>?_
 refine gos hn ?_
 refine lenM (fun hl16=>?_)
 refine COk.nilrow 10 210 1 3 rfl rfl rfl ?_
 obtain ⟨o21,h22,h⟩:=bindM h
 refine jk (ι:={ s // o21=s }) hn (fun s=>[]) (fun s=>[(210,.row 1 (List.map eInt s.1) 3)]) [(10,_)] [] (fun _ A4 _ _=>?_) ?_
 ·refine COk.blkQ fun _ _ E5 _ _=>?_
  refine lq (ι:={ q:((List Ins)×Nat×(List Int)) // q.1=x14.code.drop q.2.1∧choose_Sites_l1 N a0 a1 a2 x14 q.1 q.2.1 q.2.2=some o21 }) hn (fun q=>[(51,.int (q.1.2.1:Int))]) (fun q=>[(210,.row 1 (List.map eInt q.1.2.2) 3)]) (fun q=>q.1.1.length) [(1,_),(2,_),(4,_),(9,_),(10,_),(49,_),(50,_)] [(4,_)] ⟨(x14.code,0,([]:List Int)),rfl,h22⟩ [] ?_
  rintro ⟨⟨rest_,k17,v18⟩,hd24,h22⟩ _ A6 X6 _
  replace hd24:rest_=x14.code.drop k17:=hd24
  rcases rest_ with _|⟨x26,rest23⟩
  ·have hlt28:=restNil hd24
   replace h22:=(choose_Sites_l1.eq_1 _ _ _ _ _ _ _).symm.trans h22
   refine gos hn ?_
   refine COk.seqQ fun _ _ X7 _=>?_
   refine goc hn ?_
   refine bselF hlt28 ?_
   refine goe hn ?_
   refine X7 _ _ _ ?_
   refine X6 _ _ _ ?_
   refine E5 _ _ ?_
   refine A4 _ _ ?_
   exact jn ⟨_,sj h22⟩ []
  ·obtain ⟨hx27,hd2,hlt28⟩:=restCons hd24
   replace h22:=(choose_Sites_l1.eq_2 _ _ _ _ _ _ _ _ _).symm.trans h22
   refine gos hn ?_
   refine COk.seqQ fun _ A8 _ _=>?_
   refine goc hn ?_
   refine bselT hlt28 ?_
   refine gok hn ?_
   refine A8 _ _ ?_
   refine COk.seqQ fun _ A9 _ _=>?_
   refine COk.blkQ fun _ A10 _ _ _=>?_
   refine gos hn ?_
   refine idxK hx27 ?_
   refine gos hn ?_
   refine COk.seqQ fun _ A11 _ _=>?_
   refine gos hn ?_
   obtain ⟨o31,h30,h22⟩:=bindM h22
   refine jk (ι:={ s // o31=s }) hn (fun s=>[(13,.int s.1)]) (fun s=>[]) [(1,_),(2,_),(4,_),(9,_),(10,_),(49,_),(50,_),(51,_)] [(4,_),(210,_)] (fun _ A12 _ _=>?_) ?_
   ·refine goc hn ?_
    refine bselM h30 (fun hb32 h30=>?_) (fun hb32 h30=>?_)
    ·refine kp [(1,_),(2,_),(4,_),(9,_),(10,_),(11,_),(12,_),(49,_),(50,_),(51,_)] [(4,_),(12,_),(210,_)] ?_
     refine god hn (by kernel_rfl) ?_
     obtain ⟨r33,hr34,h30⟩:=bindM h30
     show CallOk Try.prog _ _ _ _
     refine cA (choose_Site_ok N a0 a1 (⟨a2,x14.name,(k17:Int)⟩:St) x26.name x26.a r33 hr34) ?_
     refine A12 _ _ ?_
     exact jn ⟨_,sj h30⟩ []
    refine gok hn ?_
    refine A12 _ _ ?_
    exact jn ⟨_,sj h30⟩ []
   rintro ⟨v29,hv_⟩
   replace hv_:=hv_.symm
   subst hv_
   refine A11 _ _ ?_
   refine gor hn ?_
   refine Exists.intro (List.map eInt [v29]) (And.intro (by repeat (first|exact trivial|exact rfl|(refine And.intro ?_ ?_))) ?_)
   obtain ⟨hg35,h22⟩:=guardM h22
   refine appM (l2:=[v29]) hg35 (leLs_refl _) ?_
   refine A10 _ _ ?_
   refine A9 _ _ ?_
   refine gor hn ?_
   refine Or.inl (And.intro (inrK hx27 hl16) ?_)
   refine A6 _ _ ?_
   exact jn ⟨(rest23,k17+1,(v18++[v29])),hd2,h22⟩ [(210,76)] (by show rest23.length < rest23.length+1; omega)
 rintro ⟨v20,hv_⟩
 replace hv_:=hv_.symm
 subst hv_
 refine A3 _ _ ?_
 refine gos hn ?_
 refine got hn ?_
 obtain rfl:=Option.some.inj h
 exact ⟨[(0,210)],_,fm⟩

/- fast.All -/
set_option maxRecDepth 100000 in
set_option maxHeartbeats 8000000 in
theorem fast_All_ok (N:Nat) (a0:Wd) (a1:(List Tl)) (r:(List Fs)) (h:fast_All N a0 a1=some r):Spec Try.prog 37 [] [.agg (eWd a0),.sl 4 (List.map eTl a1)] (.own 0) [(0,.row 5 (List.map eFs r) 63)] [0]:=by
 refine Spec.of tabOk Try.func37 rfl Try.ntmps37 (by kernel_rfl) rfl rfl rfl fun Γ hn=>?_
 unfold fast_All at h
 refine gos hn ?_
 refine gos hn ?_
 refine COk.seqQ fun _ A0 _ _=>?_
 refine gos hn ?_
 refine lenM (fun hl1=>?_)
 refine COk.nilrow 5 205 5 63 rfl rfl rfl ?_
 obtain ⟨o6,h7,h⟩:=bindM h
 refine jk (ι:={ s // o6=s }) hn (fun s=>[]) (fun s=>[(205,.row 5 (List.map eFs s.1) 63)]) [(5,_)] [] (fun _ A1 _ _=>?_) ?_
 ·refine COk.blkQ fun _ _ E2 _ _=>?_
  refine lq (ι:={ q:((List Cl)×Nat×(List Fs)) // q.1=a0.classes.drop q.2.1∧fast_All_l1 N a0 a1 q.1 q.2.1 q.2.2=some o6 }) hn (fun q=>[(13,.int (q.1.2.1:Int))]) (fun q=>[(205,.row 5 (List.map eFs q.1.2.2) 63)]) (fun q=>q.1.1.length) [(1,_),(2,_),(5,_),(12,_)] [(2,_)] ⟨(a0.classes,0,([]:List Fs)),rfl,h7⟩ [] ?_
  rintro ⟨⟨rest_,k2,v3⟩,hd9,h7⟩ _ A3 X3 _
  replace hd9:rest_=a0.classes.drop k2:=hd9
  rcases rest_ with _|⟨x11,rest8⟩
  ·have hlt13:=restNil hd9
   replace h7:=(fast_All_l1.eq_1 _ _ _ _ _).symm.trans h7
   refine gos hn ?_
   refine COk.seqQ fun _ _ X4 _=>?_
   refine goc hn ?_
   refine bselF hlt13 ?_
   refine goe hn ?_
   refine X4 _ _ _ ?_
   refine X3 _ _ _ ?_
   refine E2 _ _ ?_
   refine A1 _ _ ?_
   exact jn ⟨_,sj h7⟩ []
  ·obtain ⟨hx12,hd2,hlt13⟩:=restCons hd9
   replace h7:=(fast_All_l1.eq_2 _ _ _ _ _ _ _).symm.trans h7
   refine gos hn ?_
   refine COk.seqQ fun _ A5 _ _=>?_
   refine goc hn ?_
   refine bselT hlt13 ?_
   refine gok hn ?_
   refine A5 _ _ ?_
   refine COk.seqQ fun _ A6 _ _=>?_
   refine COk.blkQ fun _ A7 _ _ _=>?_
   refine gos hn ?_
   refine gos hn ?_
   refine idxK hx12 ?_
   refine lenM (fun hl14=>?_)
   obtain ⟨o19,h20,h7⟩:=bindM h7
   refine jk (ι:={ s // o19=s }) hn (fun s=>[]) (fun s=>[(205,.row 5 (List.map eFs s.1) 63)]) [(1,_),(2,_),(5,_),(12,_),(13,_)] [(2,_)] (fun _ A8 _ _=>?_) ?_
   ·refine COk.blkQ fun _ _ E9 _ _=>?_
    refine lq (ι:={ q:((List Me)×Nat×(List Fs)) // q.1=x11.methods.drop q.2.1∧fast_All_l2 N a0 a1 k2 q.1 q.2.1 q.2.2=some o19 }) hn (fun q=>[(23,.int (q.1.2.1:Int))]) (fun q=>[(205,.row 5 (List.map eFs q.1.2.2) 63)]) (fun q=>q.1.1.length) [(1,_),(2,_),(5,_),(6,_),(12,_),(13,_),(22,_)] [(2,_)] ⟨(x11.methods,0,v3),rfl,h20⟩ [] ?_
    rintro ⟨⟨rest_,k15,v16⟩,hd22,h20⟩ _ A10 X10 _
    replace hd22:rest_=x11.methods.drop k15:=hd22
    rcases rest_ with _|⟨x24,rest21⟩
    ·have hlt26:=restNil hd22
     replace h20:=(fast_All_l2.eq_1 _ _ _ _ _ _).symm.trans h20
     refine gos hn ?_
     refine COk.seqQ fun _ _ X11 _=>?_
     refine goc hn ?_
     refine bselF hlt26 ?_
     refine goe hn ?_
     refine X11 _ _ _ ?_
     refine X10 _ _ _ ?_
     refine E9 _ _ ?_
     refine A8 _ _ ?_
     exact jn ⟨_,sj h20⟩ []
    ·obtain ⟨hx25,hd2,hlt26⟩:=restCons hd22
     replace h20:=(fast_All_l2.eq_2 _ _ _ _ _ _ _ _).symm.trans h20
     refine gos hn ?_
     refine COk.seqQ fun _ A12 _ _=>?_
     refine goc hn ?_
     refine bselT hlt26 ?_
     refine gok hn ?_
     refine A12 _ _ ?_
     refine COk.seqQ fun _ A13 _ _=>?_
     obtain ⟨o29,h28,h20⟩:=bindM h20
     refine jk (ι:={ s // o29=s }) hn (fun s=>[(5,.own 42)]) (fun s=>[(42,.row 5 (List.map eFs s.1) 63)]) [(1,_),(2,_),(6,_),(12,_),(13,_),(22,_),(23,_)] [(2,_)] (fun _ A14 _ _=>?_) ?_
     ·refine COk.blkQ fun _ A15 _ _ _=>?_
      refine gos hn ?_
      refine COk.seqQ fun _ A16 _ _=>?_
      refine god hn (by kernel_rfl) ?_
      obtain ⟨r30,hr31,h28⟩:=bindM h28
      show CallOk Try.prog _ _ _ _
      refine cA ((choose_Sites_ok N a0 a1 (k2:Int) (k15:Int) r30 hr31).sw 0 34) ?_
      obtain ⟨r32,hr33,h28⟩:=bindM h28
      show CallOk Try.prog _ _ _ _
      refine cF (inline_Method_ok N a0 (k2:Int) (k15:Int) r30 r32 hr33) ?_
      refine A16 _ _ ?_
      refine kp [(1,_),(2,_),(5,_),(6,_),(8,_),(9,_),(12,_),(13,_),(22,_),(23,_)] [(2,_),(8,_),(205,_)] ?_
      refine gos hn ?_
      obtain ⟨o36,h35,h28⟩:=bindM h28
      refine jk (ι:={ s // o36=s }) hn (fun s=>[(5,.own 42)]) (fun s=>[(42,.row 5 (List.map eFs s.1) 63)]) [(1,_),(2,_),(6,_),(12,_),(13,_),(22,_),(23,_)] [(2,_)] (fun _ A17 _ _=>?_) ?_
      ·refine goc hn ?_
       refine bselM h35 (fun hb37 h35=>?_) (fun hb37 h35=>?_)
       ·refine gor hn ?_
        refine Exists.intro (List.map eFs [r32.1]) (And.intro (by repeat (first|exact trivial|exact rfl|(refine And.intro ?_ ?_))) ?_)
        obtain ⟨hg38,h35⟩:=guardM h35
        refine appM (l2:=[r32.1]) hg38 (leLs_refl _) ?_
        refine A17 _ _ ?_
        exact jn ⟨_,sj h35⟩ []
       refine gok hn ?_
       refine A17 _ _ ?_
       exact jn ⟨_,sj h35⟩ [(42,205)]
      rintro ⟨v34,hv_⟩
      replace hv_:=hv_.symm
      subst hv_
      refine A15 _ _ ?_
      refine A14 _ _ ?_
      exact jn ⟨_,sj h28⟩ []
     rintro ⟨v27,hv_⟩
     replace hv_:=hv_.symm
     subst hv_
     refine A13 _ _ ?_
     refine gor hn ?_
     refine Or.inl (And.intro (inrK hx25 hl14) ?_)
     refine A10 _ _ ?_
     exact jn ⟨(rest21,k15+1,v27),hd2,h20⟩ [(205,42)] (by show rest21.length < rest21.length+1; omega)
   rintro ⟨v18,hv_⟩
   replace hv_:=hv_.symm
   subst hv_
   refine A7 _ _ ?_
   refine A6 _ _ ?_
   refine gor hn ?_
   refine Or.inl (And.intro (inrK hx12 hl1) ?_)
   refine A3 _ _ ?_
   exact jn ⟨(rest8,k2+1,v18),hd2,h7⟩ [] (by show rest8.length < rest8.length+1; omega)
 rintro ⟨v5,hv_⟩
 replace hv_:=hv_.symm
 subst hv_
 refine A0 _ _ ?_
 refine gos hn ?_
 refine got hn ?_
 obtain rfl:=Option.some.inj h
 exact ⟨[(0,205)],_,fm⟩

/- fast.Run$1 -/
set_option maxRecDepth 100000 in
set_option maxHeartbeats 8000000 in
theorem fast_Run_1_ok (N:Nat) (a0:St) (a1:Int) (a2:ByteArray) (b0:Wd) (r:(Int×Int)) (h:fast_Run_1 N a0 a1 a2 b0=some r):Spec Try.prog 75 [] [.agg (eSt a0),.int a1,.str a2,.fp (eWd b0)] (.tup [.int r.1,.int r.2]) [] []:=by
 refine Spec.of tabOk Try.func75 rfl Try.ntmps75 (by kernel_rfl) rfl rfl rfl fun Γ hn=>?_
 unfold fast_Run_1 at h
 refine gos hn ?_
 refine gos hn ?_
 obtain ⟨r1,hr2,h⟩:=bindM h
 show CallOk Try.prog _ _ _ _
 refine cA (class_Find_ok N b0 a1 a2 r1 hr2) ?_
 refine got hn ?_
 obtain rfl:=Option.some.inj h
 exact ⟨[],_,fm⟩

/- fast.Run$2 -/
set_option maxRecDepth 100000 in
set_option maxHeartbeats 8000000 in
theorem fast_Run_2_ok (N:Nat) (a0:Int) (a1:Int) (b0:(List Fs)) (b1:Wd) (r:(Fs×Bool)) (h:fast_Run_2 N a0 a1 b0 b1=some r):Spec Try.prog 76 [] [.int a0,.int a1,.fp [.sl 5 (List.map eFs b0)],.fp (eWd b1)] (.tup [.agg (eFs r.1),.bool r.2]) [] []:=by
 refine Spec.of tabOk Try.func76 rfl Try.ntmps76 (by kernel_rfl) rfl rfl rfl fun Γ hn=>?_
 unfold fast_Run_2 at h
 refine gos hn ?_
 refine COk.seqQ fun _ A0 _ R0=>?_
 refine gos hn ?_
 refine lenM (fun hl1=>?_)
 obtain ⟨o3,h4,h⟩:=bindM h
 refine jk (ι:={ s // o3=Ctl.next s }) hn (fun s=>[]) (fun s=>[]) [(6,_)] [(6,_)] (fun _ A1 _ R1=>?_) ?_
 ·refine COk.blkQ fun _ _ E2 _ R2=>?_
  refine lq (ι:={ q:((List Fs)×Nat) // q.1=b0.drop q.2∧fast_Run_2_l1 N a0 a1 b1 q.1 q.2=some o3 }) hn (fun q=>[(12,.int (q.1.2:Int))]) (fun q=>[]) (fun q=>q.1.1.length) [(0,_),(1,_),(3,_),(6,_),(10,_),(11,_)] [(6,_)] ⟨(b0,0),rfl,h4⟩ [] ?_
  rintro ⟨⟨rest_,k2⟩,hd6,h4⟩ _ A3 X3 R3
  replace hd6:rest_=b0.drop k2:=hd6
  rcases rest_ with _|⟨x8,rest5⟩
  ·have hlt10:=restNil hd6
   replace h4:=(fast_Run_2_l1.eq_1 _ _ _ _ _).symm.trans h4
   refine gos hn ?_
   refine COk.seqQ fun _ _ X4 _=>?_
   refine goc hn ?_
   refine bselF hlt10 ?_
   refine goe hn ?_
   refine X4 _ _ _ ?_
   refine X3 _ _ _ ?_
   refine E2 _ _ ?_
   refine A1 _ _ ?_
   exact jn ⟨_,sj h4⟩ []
  ·obtain ⟨hx9,hd2,hlt10⟩:=restCons hd6
   replace h4:=(fast_Run_2_l1.eq_2 _ _ _ _ _ _ _).symm.trans h4
   refine gos hn ?_
   refine COk.seqQ fun _ A5 _ _=>?_
   refine goc hn ?_
   refine bselT hlt10 ?_
   refine gok hn ?_
   refine A5 _ _ ?_
   refine COk.seqQ fun _ A6 _ R6=>?_
   refine COk.blkQ fun _ A7 _ _ R7=>?_
   refine gos hn ?_
   refine idxK hx9 ?_
   refine COk.seqQ fun _ A8 _ _=>?_
   obtain ⟨o13,h12,h4⟩:=bindM h4
   refine jk (ι:={ s // o13=s }) hn (fun s=>[(41,.bool s.1)]) (fun s=>[]) [(0,_),(1,_),(3,_),(6,_),(9,_),(10,_),(11,_),(12,_)] [(6,_),(9,_)] (fun _ A9 _ _=>?_) ?_
   ·refine kp [(0,_),(1,_),(3,_),(6,_),(9,_),(10,_),(11,_),(12,_)] [(6,_),(9,_)] ?_
    refine god hn (by kernel_rfl) ?_
    refine bselM h12 (fun hb14 h12=>?_) (fun hb14 h12=>?_)
    ·refine bselT hb14 ?_
     refine bselT hb14 ?_
     refine bselT hb14 ?_
     refine bselT hb14 ?_
     refine bselT hb14 ?_
     obtain ⟨x15,hx16,h12⟩:=bindM h12
     refine idxM hx16 ?_
     refine bselT hb14 ?_
     refine bselT hb14 ?_
     refine bselT hb14 ?_
     refine bselT hb14 ?_
     obtain ⟨x17,hx18,h12⟩:=bindM h12
     refine idxM hx18 ?_
     refine bselT hb14 ?_
     refine bselT hb14 ?_
     refine bselT hb14 ?_
     refine bselT hb14 ?_
     refine bselM h12 (fun hb19 h12=>?_) (fun hb19 h12=>?_)
     ·refine bselT hb19 ?_
      refine bselT hb19 ?_
      refine bselT hb19 ?_
      refine bselT hb19 ?_
      refine bselT hb19 ?_
      refine A9 _ _ ?_
      exact jn ⟨_,sj h12⟩ []
     refine bselF hb19 ?_
     refine bselF hb19 ?_
     refine bselF hb19 ?_
     refine bselF hb19 ?_
     refine bselF hb19 ?_
     refine A9 _ _ ?_
     exact jn ⟨_,sj h12⟩ []
    refine bselF hb14 ?_
    refine bselF hb14 ?_
    refine bselF hb14 ?_
    refine bselF hb14 ?_
    refine bselF hb14 ?_
    refine bselF hb14 ?_
    refine bselF hb14 ?_
    refine bselF hb14 ?_
    refine bselF hb14 ?_
    refine bselF hb14 ?_
    refine bselF hb14 ?_
    refine bselF hb14 ?_
    refine bselF hb14 ?_
    refine A9 _ _ ?_
    exact jn ⟨_,sj h12⟩ []
   rintro ⟨v11,hv_⟩
   replace hv_:=hv_.symm
   subst hv_
   refine A8 _ _ ?_
   refine goc hn ?_
   refine bselM h4 (fun hb20 h4=>?_) (fun hb20 h4=>?_)
   ·refine gos hn ?_
    refine got hn ?_
    refine R7 _ _ ?_
    refine R6 _ _ ?_
    refine R3 _ _ ?_
    refine R2 _ _ ?_
    refine R1 _ _ ?_
    refine R0 _ _ ?_
    obtain rfl:=Option.some.inj h4
    obtain rfl:=Option.some.inj h
    exact ⟨[],_,fm⟩
   refine gok hn ?_
   refine A7 _ _ ?_
   refine A6 _ _ ?_
   refine gor hn ?_
   refine Or.inl (And.intro (inrK hx9 hl1) ?_)
   refine A3 _ _ ?_
   exact jn ⟨(rest5,k2+1),hd2,h4⟩ [] (by show rest5.length < rest5.length+1; omega)
 rintro ⟨⟨⟩,rfl⟩
 refine A0 _ _ ?_
 refine gos hn ?_
 refine got hn ?_
 obtain rfl:=Option.some.inj h
 exact ⟨[],_,fm⟩

/- fast.Run -/
set_option maxRecDepth 100000 in
set_option maxHeartbeats 8000000 in
theorem fast_Run_ok (N:Nat) (a0:Wd) (a1:TCall) (a2:Int) (a3:(List Fs)) (r:(Wd×TRan)) (h:fast_Run N a0 a1 a2 a3=some r):Spec Try.prog 36 [] [.agg (eWd a0),.agg (eTCall a1),.int a2,.sl 5 (List.map eFs a3)] (.tup [.agg (eWd r.1),.agg (eTRan r.2)]) [] []:=by
 refine Spec.of tabOk Try.func36 rfl Try.ntmps36 (by kernel_rfl) rfl rfl rfl fun Γ hn=>?_
 unfold fast_Run at h
 refine gos hn ?_
 refine COk.gh (Gh.fzBox 4 4 rfl rfl rfl) (fun _=>?_)
 refine COk.gh (Gh.fzBox 7 7 rfl rfl rfl) (fun _=>?_)
 refine kp [(2,_),(4,_),(5,_),(7,_),(8,_),(9,_)] [(5,_),(8,_),(9,_)] ?_
 refine gos hn ?_
 obtain ⟨r1,hr2,h⟩:=bindM h
 show CallOk Try.prog _ _ _ _
 refine cA (run_With_c1_2_ok N a0 a1 a2 (fun x0_ x1_ x2_=>fast_Run_1 N x0_ x1_ x2_ a0) (fun x0_ x1_=>fast_Run_2 N x0_ x1_ a3 a0) (fun x0_ x1_ x2_ y_ hy_=>fast_Run_1_ok N x0_ x1_ x2_ a0 y_ hy_) (fun x0_ x1_ y_ hy_=>fast_Run_2_ok N x0_ x1_ a3 a0 y_ hy_) r1 hr2) ?_
 refine got hn ?_
 obtain rfl:=Option.some.inj h
 exact ⟨[],_,fm⟩

/- qclaw11.alive -/
set_option maxRecDepth 100000 in
set_option maxHeartbeats 8000000 in
theorem qclaw11_alive_ok (N:Nat) (r:Bool) (h:qclaw11_alive N =some r):Spec Try.prog 34 [] [] (.bool r) [] []:=by
 refine Spec.of tabOk Try.func34 rfl Try.ntmps34 (by kernel_rfl) rfl rfl rfl fun Γ hn=>?_
 unfold qclaw11_alive at h
 refine gos hn ?_
 refine gos hn ?_
 obtain ⟨r1,hr2,h⟩:=bindM h
 show CallOk Try.prog _ _ _ _
 refine cA (qcref1_New_ok N  r1 hr2) ?_
 obtain ⟨r3,hr4,h⟩:=bindM h
 show CallOk Try.prog _ _ _ _
 refine cA (qcref1_Make_ok N r1 (⟨#[65]⟩:ByteArray) (0:Int) (0:Int) r3 hr4) ?_
 refine gos hn ?_
 refine Exists.intro (List.map eIns [(⟨(5:Int),(7:Int),(0:Int),(0:Int),ByteArray.empty⟩:Ins),(⟨(17:Int),(0:Int),(0:Int),(0:Int),ByteArray.empty⟩:Ins)]) (And.intro (by repeat (first|exact trivial|exact rfl|(refine And.intro ?_ ?_))) ?_)
 obtain ⟨r5,hr6,h⟩:=bindM h
 show CallOk Try.prog _ _ _ _
 refine cF (qcref1_Install_ok N r3.1 r3.2.1 (⟨(⟨#[103]⟩:ByteArray),(0:Int),(0:Int),(0:Int),[(⟨(5:Int),(7:Int),(0:Int),(0:Int),ByteArray.empty⟩:Ins),(⟨(17:Int),(0:Int),(0:Int),(0:Int),ByteArray.empty⟩:Ins)]⟩:Me) r5 hr6) ?_
 refine kp [(1,_),(2,_)] [(1,_)] ?_
 refine gos hn ?_
 refine Exists.intro (List.map eIns [(⟨(1:Int),(0:Int),(0:Int),(0:Int),ByteArray.empty⟩:Ins),(⟨(14:Int),(0:Int),(0:Int),(0:Int),(⟨#[103]⟩:ByteArray)⟩:Ins),(⟨(17:Int),(0:Int),(0:Int),(0:Int),ByteArray.empty⟩:Ins)]) (And.intro (by repeat (first|exact trivial|exact rfl|(refine And.intro ?_ ?_))) ?_)
 obtain ⟨r7,hr8,h⟩:=bindM h
 show CallOk Try.prog _ _ _ _
 refine cF (qcref1_Install_ok N r5.1 r3.2.1 (⟨(⟨#[109]⟩:ByteArray),(0:Int),(0:Int),(0:Int),[(⟨(1:Int),(0:Int),(0:Int),(0:Int),ByteArray.empty⟩:Ins),(⟨(14:Int),(0:Int),(0:Int),(0:Int),(⟨#[103]⟩:ByteArray)⟩:Ins),(⟨(17:Int),(0:Int),(0:Int),(0:Int),ByteArray.empty⟩:Ins)]⟩:Me) r7 hr8) ?_
 refine gos hn ?_
 refine Or.inr ?_
 refine Exists.intro (List.map eOb [(⟨r3.2.1,[]⟩:Ob)]) (And.intro (by repeat (first|exact trivial|exact rfl|(refine And.intro ?_ ?_))) ?_)
 refine COk.fzAll 36 rfl ?_
 refine kp [(1,_),(2,_)] [(1,_)] ?_
 refine gos hn ?_
 refine Exists.intro (List.map eLn [(⟨r3.2.1,(9:Int)⟩:Ln)]) (And.intro (by repeat (first|exact trivial|exact rfl|(refine And.intro ?_ ?_))) ?_)
 refine Exists.intro (List.map eTl [(⟨(⟨r3.2.1,(⟨#[109]⟩:ByteArray),(1:Int)⟩:St),[(⟨r3.2.1,(9:Int)⟩:Ln)]⟩:Tl)]) (And.intro (by repeat (first|exact trivial|exact rfl|(refine And.intro ?_ ?_))) ?_)
 obtain ⟨r9,hr10,h⟩:=bindM h
 show CallOk Try.prog _ _ _ _
 refine cF ((fast_All_ok N (⟨r7.1.classes,[(⟨r3.2.1,[]⟩:Ob)],r7.1.epoch⟩:Wd) [(⟨(⟨r3.2.1,(⟨#[109]⟩:ByteArray),(1:Int)⟩:St),[(⟨r3.2.1,(9:Int)⟩:Ln)]⟩:Tl)] r9 hr10).sw 0 46) ?_
 refine COk.fzAll 46 rfl ?_
 refine kp [(1,_),(4,_)] [(1,_)] ?_
 refine gos hn ?_
 obtain ⟨r11,hr12,h⟩:=bindM h
 show CallOk Try.prog _ _ _ _
 refine cA (fast_Run_ok N (⟨r7.1.classes,[(⟨r3.2.1,[]⟩:Ob)],r7.1.epoch⟩:Wd) (⟨(⟨(4:Int),(0:Int)⟩:V),(⟨#[109]⟩:ByteArray),[]⟩:TCall) (9:Int) r9 r11 hr12) ?_
 refine COk.seqQ fun _ A0 _ _=>?_
 obtain ⟨o15,h14,h⟩:=bindM h
 refine jk (ι:={ s // o15=s }) hn (fun s=>[(0,.bool s.1)]) (fun s=>[]) [] [] (fun _ A1 _ _=>?_) ?_
 ·refine gor hn ?_
  refine lenM (fun _=>?_)
  refine bselM h14 (fun hb17 h14=>?_) (fun hb17 h14=>?_)
  ·refine bselT hb17 ?_
   obtain ⟨x18,hx19,h14⟩:=bindM h14
   refine idxM hx19 ?_
   refine bselT hb17 ?_
   refine bselT hb17 ?_
   refine bselT hb17 ?_
   refine bselT hb17 ?_
   refine bselM h14 (fun hb20 h14=>?_) (fun hb20 h14=>?_)
   ·refine bselT hb20 ?_
    refine bselT hb20 ?_
    refine bselT hb20 ?_
    refine bselT hb20 ?_
    refine A1 _ _ ?_
    exact jn ⟨_,sj h14⟩ []
   refine bselF hb20 ?_
   refine bselF hb20 ?_
   refine bselF hb20 ?_
   refine bselF hb20 ?_
   refine A1 _ _ ?_
   exact jn ⟨_,sj h14⟩ []
  refine bselF hb17 ?_
  refine bselF hb17 ?_
  refine bselF hb17 ?_
  refine bselF hb17 ?_
  refine bselF hb17 ?_
  refine A1 _ _ ?_
  exact jn ⟨_,sj h14⟩ []
 rintro ⟨v13,hv_⟩
 replace hv_:=hv_.symm
 subst hv_
 refine A0 _ _ ?_
 refine got hn ?_
 obtain rfl:=Option.some.inj h
 exact ⟨[],_,fm⟩

/- qclaw11.FastOld -/
set_option maxRecDepth 100000 in
set_option maxHeartbeats 8000000 in
theorem qclaw11_FastOld_ok (N:Nat) (a0:Wd) (a1:TCall) (a2:Int) (a3:(List Fs)) (r:Bool) (h:qclaw11_FastOld N a0 a1 a2 a3=some r):Spec Try.prog 12 [] [.agg (eWd a0),.agg (eTCall a1),.int a2,.sl 5 (List.map eFs a3)] (.bool r) [] []:=by
 refine Spec.of tabOk Try.func12 rfl Try.ntmps12 (by kernel_rfl) rfl rfl rfl fun Γ hn=>?_
 unfold qclaw11_FastOld at h
 refine gos hn ?_
 refine COk.seqQ fun _ A0 _ R0=>?_
 refine gos hn ?_
 obtain ⟨r1,hr2,h⟩:=bindM h
 show CallOk Try.prog _ _ _ _
 refine cA (qclaw11_alive_ok N  r1 hr2) ?_
 refine goc hn ?_
 refine bselM h (fun hb3 h=>?_) (fun hb3 h=>?_)
 ·refine gos hn ?_
  refine got hn ?_
  refine R0 _ _ ?_
  obtain rfl:=Option.some.inj h
  exact ⟨[],_,fm⟩
 refine gok hn ?_
 refine A0 _ _ ?_
 refine COk.seqQ fun _ A1 _ R1=>?_
 refine gos hn ?_
 obtain ⟨r4,hr5,h⟩:=bindM h
 show CallOk Try.prog _ _ _ _
 refine cA (qcref1_Right_ok N a0 r4 hr5) ?_
 refine goc hn ?_
 refine bselM h (fun hb6 h=>?_) (fun hb6 h=>?_)
 ·refine gos hn ?_
  refine got hn ?_
  refine R1 _ _ ?_
  obtain rfl:=Option.some.inj h
  exact ⟨[],_,fm⟩
 refine gok hn ?_
 refine A1 _ _ ?_
 refine COk.seqQ fun _ A2 _ R2=>?_
 refine gos hn ?_
 refine lenM (fun hl7=>?_)
 obtain ⟨o9,h10,h⟩:=bindM h
 refine jk (ι:={ s // o9=Ctl.next s }) hn (fun s=>[]) (fun s=>[]) [(2,_),(3,_),(4,_),(5,_)] [(4,_),(5,_)] (fun _ A3 _ R3=>?_) ?_
 ·refine COk.blkQ fun _ _ E4 _ R4=>?_
  refine lq (ι:={ q:((List Fs)×Nat) // q.1=a3.drop q.2∧qclaw11_FastOld_l1 N a0 q.1 q.2=some o9 }) hn (fun q=>[(23,.int (q.1.2:Int))]) (fun q=>[]) (fun q=>q.1.1.length) [(2,_),(3,_),(4,_),(5,_),(21,_),(22,_)] [(4,_),(5,_)] ⟨(a3,0),rfl,h10⟩ [] ?_
  rintro ⟨⟨rest_,k8⟩,hd12,h10⟩ _ A5 X5 R5
  replace hd12:rest_=a3.drop k8:=hd12
  rcases rest_ with _|⟨x14,rest11⟩
  ·have hlt16:=restNil hd12
   replace h10:=(qclaw11_FastOld_l1.eq_1 _ _ _).symm.trans h10
   refine gos hn ?_
   refine COk.seqQ fun _ _ X6 _=>?_
   refine goc hn ?_
   refine bselF hlt16 ?_
   refine goe hn ?_
   refine X6 _ _ _ ?_
   refine X5 _ _ _ ?_
   refine E4 _ _ ?_
   refine A3 _ _ ?_
   exact jn ⟨_,sj h10⟩ []
  ·obtain ⟨hx15,hd2,hlt16⟩:=restCons hd12
   replace h10:=(qclaw11_FastOld_l1.eq_2 _ _ _ _ _).symm.trans h10
   refine gos hn ?_
   refine COk.seqQ fun _ A7 _ _=>?_
   refine goc hn ?_
   refine bselT hlt16 ?_
   refine gok hn ?_
   refine A7 _ _ ?_
   refine COk.seqQ fun _ A8 _ R8=>?_
   refine COk.blkQ fun _ A9 _ _ R9=>?_
   refine gos hn ?_
   refine idxK hx15 ?_
   refine gos hn ?_
   refine goc hn ?_
   refine bselM h10 (fun hb17 h10=>?_) (fun hb17 h10=>?_)
   ·refine gos hn ?_
    refine got hn ?_
    refine R9 _ _ ?_
    refine R8 _ _ ?_
    refine R5 _ _ ?_
    refine R4 _ _ ?_
    refine R3 _ _ ?_
    refine R2 _ _ ?_
    obtain rfl:=Option.some.inj h10
    obtain rfl:=Option.some.inj h
    exact ⟨[],_,fm⟩
   refine gok hn ?_
   refine A9 _ _ ?_
   refine A8 _ _ ?_
   refine gor hn ?_
   refine Or.inl (And.intro (inrK hx15 hl7) ?_)
   refine A5 _ _ ?_
   exact jn ⟨(rest11,k8+1),hd2,h10⟩ [] (by show rest11.length < rest11.length+1; omega)
 rintro ⟨⟨⟩,rfl⟩
 refine A2 _ _ ?_
 refine gos hn ?_
 obtain ⟨r18,hr19,h⟩:=bindM h
 show CallOk Try.prog _ _ _ _
 refine cA (fast_Run_ok N a0 a1 a2 a3 r18 hr19) ?_
 refine gos hn ?_
 obtain ⟨r20,hr21,h⟩:=bindM h
 show CallOk Try.prog _ _ _ _
 refine cA (qcref5_Run_ok N a0 a1 a2 r20 hr21) ?_
 refine COk.seqQ fun _ A10 _ _=>?_
 obtain ⟨o24,h23,h⟩:=bindM h
 refine jk (ι:={ s // o24=s }) hn (fun s=>[(8,.bool s.1)]) (fun s=>[]) [] [] (fun _ A11 _ _=>?_) ?_
 ·refine kp [(11,_),(12,_),(13,_),(14,_)] [(11,_),(12,_),(13,_),(14,_)] ?_
  refine gor hn ?_
  refine bselM h23 (fun hb25 h23=>?_) (fun hb25 h23=>?_)
  ·refine bselT hb25 ?_
   refine bselT hb25 ?_
   obtain ⟨r26,hr27,h23⟩:=bindM h23
   show CallOk Try.prog _ _ _ _
   refine cA (qcref1_SameWorld_ok N r18.1 r20.1 r26 hr27) ?_
   refine bselT hb25 ?_
   refine A11 _ _ ?_
   exact jn ⟨_,sj h23⟩ []
  refine bselF hb25 ?_
  refine bselF hb25 ?_
  refine bselF hb25 ?_
  refine A11 _ _ ?_
  exact jn ⟨_,sj h23⟩ []
 rintro ⟨v22,hv_⟩
 replace hv_:=hv_.symm
 subst hv_
 refine A10 _ _ ?_
 refine got hn ?_
 obtain rfl:=Option.some.inj h
 exact ⟨[],_,fm⟩
end Go.Proofs.Ytkecefjmcimemaa
