/- Walks after the mirrors. Printed by mir.py. -/
import Derived.Test.YtkecefjmcimemaaWk1
namespace Go.Proofs.Ytkecefjmcimemaa
open Go.RowKit
set_option linter.unusedVariables false
/- (*run.machine).enter -/
set_option maxRecDepth 100000 in
set_option maxHeartbeats 8000000 in
theorem run_machine_enter_c1_0_ok (N:Nat) (a0:TMachine) (gl:St→Int→ByteArray→Option (Int×Int)) (gq:Int→Int→Option (Fs×Bool)) (a1:Int) (a2:Int) (a3:V) (a4:(List V)) {Kl:Nat} {cl_0:List AV} (hgl:∀x0_ x1_ x2_ y_,gl x0_ x1_ x2_=some y_→Spec Try.prog Kl [] [.agg (eSt x0_),.int x1_,.str x2_,.fp cl_0] (.tup [.int y_.1,.int y_.2]) [] []) {Kq:Nat} (hgq:∀x0_ x1_ y_,gq x0_ x1_=some y_→Spec Try.prog Kq [] [.int x0_,.int x1_] (.tup [.agg (eFs y_.1),.bool y_.2]) [] []) (r:TMachine) (h:run_machine_enter N a0 gl gq a1 a2 a3 a4=some r):Spec Try.prog 61 [(1000,.box [.ptr 1001 0,.fn Kl [.fp cl_0],.fn Kq [],.int a0.fuel,.int a0.sends,.int a0.turns,.own 1003,.int a0.back.k,.int a0.back.n,.int a0.err] 123),(1001,.box [.sl 4 (List.map eCl a0.w.classes),.own 1002,.int a0.w.epoch] 25),(1003,.deep 10 160 [(7,(2,27)),(8,(2,27))] (List.map eTFrame a0.frames) [] 1005)] [.ptr 1000 0,.int a1,.int a2,.agg (eV a3),.sl 2 (List.map eV a4)] (.tup []) [(1000,.box [.ptr 1001 0,.fn Kl [.fp cl_0],.fn Kq [],.int r.fuel,.int r.sends,.int r.turns,.own 4,.int r.back.k,.int r.back.n,.int r.err] 123),(1001,.box [.sl 4 (List.map eCl a0.w.classes),.own 1002,.int a0.w.epoch] 25),(4,.deep 10 160 [(7,(2,27)),(8,(2,27))] (List.map eTFrame r.frames) [] 5),(5,.gone),(1003,.gone)] [5,4]:=by
 refine Spec.of tabOk Try.func61 rfl Try.ntmps61 (by kernel_rfl) rfl rfl rfl fun Γ hn=>?_
 unfold run_machine_enter at h
 refine COk.snoc ?_
 refine gos hn ?_
 refine gos hn ?_
 obtain ⟨x1,hx2,h⟩:=bindM h
 refine idxM hx2 ?_
 obtain ⟨x3,hx4,h⟩:=bindM h
 refine idxM hx4 ?_
 refine COk.seqQ fun _ A0 _ R0=>?_
 refine kp [(0,_),(1,_),(2,_),(4,_),(8,_),(10,_)] [(8,_),(1000,_),(1001,_),(1003,_)] ?_
 refine gos hn ?_
 refine lenM (fun _=>?_)
 refine goc hn ?_
 refine bselM h (fun hb6 h=>?_) (fun hb6 h=>?_)
 ·refine gos hn ?_
  obtain ⟨r7,hr8,h⟩:=bindM h
  show CallOk Try.prog _ _ _ _
  refine cA (run_machine_fail_c1_0_ok N (⟨(⟨a0.w.classes,a0.w.heap,a0.w.epoch⟩:Wd),a0.fuel,a0.sends,a0.turns,a0.frames,a0.back,a0.err⟩:TMachine) gl gq (8:Int) hgl hgq r7 hr8) ?_
  refine COk.gh (Gh.reidD 1000 6 1003 501 502 rfl rfl rfl rfl rfl rfl rfl rfl rfl rfl rfl rfl) (fun _=>?_)
  refine got hn ?_
  refine R0 _ _ ?_
  obtain rfl:=Option.some.inj h
  exact ⟨[(4,501),(5,502)],_,fm⟩
 refine gok hn ?_
 refine A0 _ _ ?_
 refine COk.seqQ fun _ A1 _ R1=>?_
 refine gos hn ?_
 refine goc hn ?_
 refine bselM h (fun hb9 h=>?_) (fun hb9 h=>?_)
 ·refine COk.seqQ fun _ A2 _ R2=>?_
  refine kp [(0,_),(4,_),(8,_),(10,_)] [(8,_),(1000,_),(1001,_),(1003,_)] ?_
  refine gos hn ?_
  obtain ⟨r10,hr11,h⟩:=bindM h
  show CallOk Try.prog _ _ _ _
  refine cA (run_machine_count_c1_0_ok N (⟨(⟨a0.w.classes,a0.w.heap,a0.w.epoch⟩:Wd),a0.fuel,a0.sends,a0.turns,a0.frames,a0.back,a0.err⟩:TMachine) gl gq false hgl hgq r10 hr11) ?_
  refine goc hn ?_
  refine bselM h (fun hb12 h=>?_) (fun hb12 h=>?_)
  ·refine COk.gh (Gh.reidD 1000 6 1003 503 504 rfl rfl rfl rfl rfl rfl rfl rfl rfl rfl rfl rfl) (fun _=>?_)
   refine got hn ?_
   refine R2 _ _ ?_
   refine R1 _ _ ?_
   obtain rfl:=Option.some.inj h
   exact ⟨[(4,503),(5,504)],_,fm⟩
  refine gok hn ?_
  refine A2 _ _ ?_
  refine COk.seqQ fun _ A3 _ _=>?_
  refine god hn (by kernel_rfl) ?_
  obtain ⟨x13,hx14,h⟩:=bindM h
  refine idxM hx14 ?_
  obtain ⟨r15,hr16,h⟩:=bindM h
  show CallOk Try.prog _ _ _ _
  refine cA (value_Prim_ok N x3.prim a3 x13 r15 hr16) ?_
  refine A3 _ _ ?_
  refine COk.seqQ fun _ A4 _ R4=>?_
  refine kp [(0,_),(11,_),(12,_)] [(11,_),(1000,_),(1001,_),(1003,_)] ?_
  refine gos hn ?_
  refine goc hn ?_
  refine bselM h (fun hb17 h=>?_) (fun hb17 h=>?_)
  ·refine gos hn ?_
   obtain ⟨r18,hr19,h⟩:=bindM h
   show CallOk Try.prog _ _ _ _
   refine cA (run_machine_fail_c1_0_ok N (⟨(⟨a0.w.classes,a0.w.heap,a0.w.epoch⟩:Wd),r10.2.fuel,r10.2.sends,r10.2.turns,a0.frames,r10.2.back,r10.2.err⟩:TMachine) gl gq r15.2 hgl hgq r18 hr19) ?_
   refine COk.gh (Gh.reidD 1000 6 1003 505 506 rfl rfl rfl rfl rfl rfl rfl rfl rfl rfl rfl rfl) (fun _=>?_)
   refine got hn ?_
   refine R4 _ _ ?_
   refine R1 _ _ ?_
   obtain rfl:=Option.some.inj h
   exact ⟨[(4,505),(5,506)],_,fm⟩
  refine gok hn ?_
  refine A4 _ _ ?_
  refine gos hn ?_
  obtain ⟨r20,hr21,h⟩:=bindM h
  show CallOk Try.prog _ _ _ _
  refine cA ((run_machine_give_c1_0_ok N (⟨(⟨a0.w.classes,a0.w.heap,a0.w.epoch⟩:Wd),r10.2.fuel,r10.2.sends,r10.2.turns,a0.frames,r10.2.back,r10.2.err⟩:TMachine) gl gq r15.1 hgl hgq r20 hr21).sw 5 507) ?_
  refine COk.gh (Gh.reidD 1000 6 1003 508 509 rfl rfl rfl rfl rfl rfl rfl rfl rfl rfl rfl rfl) (fun _=>?_)
  refine got hn ?_
  refine R1 _ _ ?_
  obtain rfl:=Option.some.inj h
  exact ⟨[(4,508),(5,509)],_,fm⟩
 refine gok hn ?_
 refine A1 _ _ ?_
 refine COk.seqQ fun _ A5 _ R5=>?_
 refine kp [(0,_),(1,_),(2,_),(4,_),(8,_),(10,_)] [(8,_),(1000,_),(1001,_),(1003,_)] ?_
 refine gos hn ?_
 obtain ⟨r22,hr23,h⟩:=bindM h
 show CallOk Try.prog _ _ _ _
 refine cA (run_machine_count_c1_0_ok N (⟨(⟨a0.w.classes,a0.w.heap,a0.w.epoch⟩:Wd),a0.fuel,a0.sends,a0.turns,a0.frames,a0.back,a0.err⟩:TMachine) gl gq true hgl hgq r22 hr23) ?_
 refine goc hn ?_
 refine bselM h (fun hb24 h=>?_) (fun hb24 h=>?_)
 ·refine COk.gh (Gh.reidD 1000 6 1003 510 511 rfl rfl rfl rfl rfl rfl rfl rfl rfl rfl rfl rfl) (fun _=>?_)
  refine got hn ?_
  refine R5 _ _ ?_
  obtain rfl:=Option.some.inj h
  exact ⟨[(4,510),(5,511)],_,fm⟩
 refine gok hn ?_
 refine A5 _ _ ?_
 refine COk.seqQ fun _ A6 _ _=>?_
 refine kp [(0,_),(1,_),(2,_),(4,_),(8,_),(10,_)] [(8,_),(1000,_),(1001,_),(1003,_)] ?_
 refine god hn (by kernel_rfl) ?_
 obtain ⟨r25,hr26,h⟩:=bindM h
 show CallOk Try.prog _ _ _ _
 refine cA ((slices_Clone_V_ok N a4 r25 hr26).sw 0 77) ?_
 obtain ⟨hg27,h⟩:=guardM h
 refine mkM (enc:=eV) (x:=(⟨(0:Int),(0:Int)⟩:V)) hg27 (by repeat (first|exact trivial|exact rfl|(refine And.intro ?_ ?_))) ?_
 refine A6 _ _ ?_
 refine COk.seqQ fun _ A7 _ _=>?_
 refine kp [(0,_),(1,_),(2,_),(13,_)] [(13,_),(77,_),(82,_),(1000,_),(1001,_),(1003,_)] ?_
 refine gos hn ?_
 obtain ⟨r28,hr29,h⟩:=bindM h
 show CallOk Try.prog _ _ _ _
 refine cA (hgq _ _ _ hr29) ?_
 refine gos hn ?_
 obtain ⟨o34,h33,h⟩:=bindM h
 refine jk (ι:={ s // o34=s }) hn (fun s=>[]) (fun s=>[(13,.box [.int a1,.int a2,.bool s.1.1,.sl 5 (List.map eIns s.1.2.1),.int a3.k,.int a3.n,.own 77,.own 99,.nilsl,.int (0:Int)] 160),(99,.row 2 (List.map eV s.1.2.2) 27)]) [(0,_),(13,_)] [(77,_),(1000,_),(1001,_),(1003,_)] (fun _ A8 _ _=>?_) ?_
 ·refine goc hn ?_
  refine bselM h33 (fun hb35 h33=>?_) (fun hb35 h33=>?_)
  ·refine kp [(0,_),(13,_),(14,_)] [(13,_),(14,_),(77,_),(82,_),(1000,_),(1001,_),(1003,_)] ?_
   refine god hn (by kernel_rfl) ?_
   obtain ⟨hg36,h33⟩:=guardM h33
   refine mkM (enc:=eV) (x:=(⟨(0:Int),(0:Int)⟩:V)) hg36 (by repeat (first|exact trivial|exact rfl|(refine And.intro ?_ ?_))) ?_
   refine A8 _ _ ?_
   exact jn ⟨_,sj h33⟩ []
  refine gok hn ?_
  refine A8 _ _ ?_
  exact jn ⟨_,sj h33⟩ [(99,82)]
 rintro ⟨⟨v30,v31,v32⟩,rfl⟩
 refine A7 _ _ ?_
 refine COk.fzAll 77 rfl ?_
 refine kp [(0,_),(13,_)] [(13,_),(99,_),(1000,_),(1001,_),(1003,_)] ?_
 refine god hn (by kernel_rfl) ?_
 refine Or.inl ?_
 refine Exists.intro [(7,(2,27)),(8,(2,27))] (Exists.intro (eTFrame (⟨a1,a2,v30,v31,a3,r25,v32,[],(0:Int)⟩:TFrame)) (Exists.intro [(99,.row 2 (List.map eV v32) 27)] (And.intro rfl (And.intro rfl (And.intro rfl (And.intro (by decide) (And.intro (by decide) (And.intro rfl (And.intro rfl ?_)))))))))
 obtain ⟨hg37,h⟩:=guardM h
 refine appD (l2:=[(⟨a1,a2,v30,v31,a3,r25,v32,[],(0:Int)⟩:TFrame)]) hg37 rfl rfl rfl rfl rfl (by decide) (by decide) ?_
 refine EOk.done ?_
 obtain rfl:=Option.some.inj h
 exact ⟨[(4,110),(5,810)],_,fm⟩

/- (*run.machine).send -/
set_option maxRecDepth 100000 in
set_option maxHeartbeats 8000000 in
theorem run_machine_send_c1_0_ok (N:Nat) (a0:TMachine) (gl:St→Int→ByteArray→Option (Int×Int)) (gq:Int→Int→Option (Fs×Bool)) (a1:Nat) (a2:Ins) (a3:Int) {Kl:Nat} {cl_0:List AV} (hgl:∀x0_ x1_ x2_ y_,gl x0_ x1_ x2_=some y_→Spec Try.prog Kl [] [.agg (eSt x0_),.int x1_,.str x2_,.fp cl_0] (.tup [.int y_.1,.int y_.2]) [] []) {Kq:Nat} (hgq:∀x0_ x1_ y_,gq x0_ x1_=some y_→Spec Try.prog Kq [] [.int x0_,.int x1_] (.tup [.agg (eFs y_.1),.bool y_.2]) [] []) (r:TMachine) (h:run_machine_send N a0 gl gq a1 a2 a3=some r):Spec Try.prog 93 [(1000,.box [.ptr 1001 0,.fn Kl [.fp cl_0],.fn Kq [],.int a0.fuel,.int a0.sends,.int a0.turns,.own 1003,.int a0.back.k,.int a0.back.n,.int a0.err] 123),(1001,.box [.sl 4 (List.map eCl a0.w.classes),.own 1002,.int a0.w.epoch] 25),(1002,.deep 2 97 [(1,(2,27))] (List.map eOb a0.w.heap) [] 1004),(1003,.deep 10 160 [(7,(2,27)),(8,(2,27))] (List.map eTFrame a0.frames) [] 1005)] [.ptr 1000 0,.ep 1003 a1 10 0,.agg (eIns a2),.int a3] (.tup []) [(1000,.box [.ptr 1001 0,.fn Kl [.fp cl_0],.fn Kq [],.int r.fuel,.int r.sends,.int r.turns,.own 4,.int r.back.k,.int r.back.n,.int r.err] 123),(1001,.box [.sl 4 (List.map eCl a0.w.classes),.own 1002,.int a0.w.epoch] 25),(1002,.deep 2 97 [(1,(2,27))] (List.map eOb a0.w.heap) [] 1004),(4,.deep 10 160 [(7,(2,27)),(8,(2,27))] (List.map eTFrame r.frames) [] 5),(5,.gone),(1003,.gone)] [5,4]:=by
 refine Spec.of tabOk Try.func93 rfl Try.ntmps93 (by kernel_rfl) rfl rfl rfl fun Γ hn=>?_
 unfold run_machine_send at h
 refine COk.snoc ?_
 refine gos hn ?_
 refine COk.seqQ fun _ A0 _ _=>?_
 obtain ⟨x1,hx2,h⟩:=bindM h
 refine COk.gh (Gh.detach 1003 501 502 a1 8 rfl rfl (atD hx2) rfl rfl rfl rfl rfl rfl rfl rfl) (fun _=>?_)
 refine kp [(0,_),(1,_),(3,_),(6,_)] [(6,_),(501,_),(502,_),(1000,_),(1001,_),(1002,_),(1003,_)] ?_
 refine god hn (by kernel_rfl) ?_
 refine holeD hx2 rfl rfl (by decide) rfl ?_
 refine lenM (fun _=>?_)
 refine Or.inr ?_
 refine A0 _ _ ?_
 refine COk.seqQ fun _ A1 _ _=>?_
 refine kp [(0,_),(1,_),(3,_),(6,_),(8,_)] [(6,_),(501,_),(502,_),(1000,_),(1001,_),(1002,_),(1003,_)] ?_
 refine god hn (by kernel_rfl) ?_
 refine holeD hx2 rfl rfl (by decide) rfl ?_
 obtain ⟨hg4,h⟩:=guardM h
 refine osrM hg4 rfl rfl ?_
 obtain ⟨r5,hr6,h⟩:=bindM h
 show CallOk Try.prog _ _ _ _
 refine cDf ((Spec.drop1 (slices_Clone_V_ok N (x1.stack.drop ((wr ((x1.stack.length:Int) - a2.a)).toNat)) r5 hr6)).sw 0 28) ⟨flatV _,trivial⟩ ?_
 refine holeD hx2 rfl rfl (by decide) rfl ?_
 refine Or.inr ?_
 obtain ⟨x7,hx8,h⟩:=bindM h
 refine ownM hx8 ?_
 refine ldM (nthO_some hx8).2 ?_
 refine A1 _ _ ?_
 refine COk.seqQ fun _ A2 _ _=>?_
 refine COk.gh (Gh.attach (l':=List.map eTFrame a0.frames) 1003 501 503 a1 8 rfl rfl rfl (atD hx2) rfl rfl (setSelfD hx2 rfl) rfl rfl rfl rfl rfl rfl) (fun _=>?_)
 refine kp [(0,_),(1,_),(3,_),(6,_),(8,_),(9,_),(10,_)] [(6,_),(10,_),(28,_),(503,_),(1000,_),(1001,_),(1002,_),(1003,_)] ?_
 refine god hn (by kernel_rfl) ?_
 refine ldM hx2 ?_
 refine ldM hx2 ?_
 obtain ⟨x9,hx10,h⟩:=bindM h
 refine idxM hx10 ?_
 refine ldM hx2 ?_
 obtain ⟨x11,hx12,h⟩:=bindM h
 refine idxM hx12 ?_
 refine A2 _ _ ?_
 refine COk.seqQ fun _ A3 _ _=>?_
 refine kp [(0,_),(1,_),(6,_),(8,_),(9,_),(10,_),(11,_)] [(6,_),(10,_),(11,_),(28,_),(503,_),(1000,_),(1001,_),(1002,_),(1003,_)] ?_
 refine gos hn ?_
 refine ldM hx2 ?_
 obtain ⟨o15,h14,h⟩:=bindM h
 refine jk (ι:={ s // o15=s }) hn (fun s=>[]) (fun s=>[(11,.box [.int x1.class_,.str x11.name,.int s.1] 56)]) [(0,_),(1,_),(6,_),(8,_),(9,_),(10,_),(11,_)] [(6,_),(10,_),(28,_),(503,_),(1000,_),(1001,_),(1002,_),(1003,_)] (fun _ A4 _ _=>?_) ?_
 ·refine goc hn ?_
  refine bselM h14 (fun hb16 h14=>?_) (fun hb16 h14=>?_)
  ·refine gor hn ?_
   refine A4 _ _ ?_
   exact jn ⟨_,sj h14⟩ []
  refine gok hn ?_
  refine A4 _ _ ?_
  exact jn ⟨_,sj h14⟩ []
 rintro ⟨v13,hv_⟩
 replace hv_:=hv_.symm
 subst hv_
 refine A3 _ _ ?_
 refine COk.seqQ fun _ A5 _ _=>?_
 refine kp [(0,_),(1,_),(6,_),(8,_),(9,_),(10,_),(11,_)] [(6,_),(10,_),(11,_),(28,_),(503,_),(1000,_),(1001,_),(1002,_),(1003,_)] ?_
 refine god hn (by kernel_rfl) ?_
 obtain ⟨r17,hr18,h⟩:=bindM h
 show CallOk Try.prog _ _ _ _
 refine cD (value_Class_ok N a0.w.heap x7 r17 hr18) ?_
 obtain ⟨r19,hr20,h⟩:=bindM h
 show CallOk Try.prog _ _ _ _
 refine cA (hgl _ _ _ _ hr20) ?_
 refine A5 _ _ ?_
 refine COk.seqQ fun _ A6 _ R6=>?_
 refine kp [(0,_),(1,_),(8,_),(9,_),(10,_),(12,_),(13,_)] [(10,_),(28,_),(503,_),(1000,_),(1001,_),(1002,_),(1003,_)] ?_
 refine gos hn ?_
 refine goc hn ?_
 refine bselM h (fun hb21 h=>?_) (fun hb21 h=>?_)
 ·refine gos hn ?_
  obtain ⟨r22,hr23,h⟩:=bindM h
  show CallOk Try.prog _ _ _ _
  refine cA (run_machine_fail_c1_0_ok N (⟨(⟨a0.w.classes,a0.w.heap,a0.w.epoch⟩:Wd),a0.fuel,a0.sends,a0.turns,a0.frames,a0.back,a0.err⟩:TMachine) gl gq (10:Int) hgl hgq r22 hr23) ?_
  refine COk.gh (Gh.reidD 1000 6 1003 504 505 rfl rfl rfl rfl rfl rfl rfl rfl rfl rfl rfl rfl) (fun _=>?_)
  refine got hn ?_
  refine R6 _ _ ?_
  obtain rfl:=Option.some.inj h
  exact ⟨[(4,504),(5,505)],_,fm⟩
 refine gok hn ?_
 refine A6 _ _ ?_
 refine COk.gh (Gh.detach 1003 506 507 a1 8 rfl rfl (atD hx2) rfl rfl rfl rfl rfl rfl rfl rfl) (fun _=>?_)
 refine kp [(0,_),(1,_),(8,_),(9,_),(10,_),(12,_),(13,_)] [(10,_),(28,_),(506,_),(507,_),(1000,_),(1001,_),(1002,_),(1003,_)] ?_
 refine gos hn ?_
 refine holeD hx2 rfl rfl (by decide) rfl ?_
 refine Or.inr ?_
 obtain ⟨hg24,h⟩:=guardM h
 refine takeM hg24 rfl rfl ?_
 refine holeSD hx2 rfl rfl (by decide) ?_
 refine COk.gh (Gh.attach (l':=List.map eTFrame (a0.frames.set a1 (⟨x1.class_,x1.method,x1.fast,x1.code,x1.self_,x1.args,x1.temps,(x1.stack.take (wr ((wr ((x1.stack.length:Int) - a2.a)) - (1:Int))).toNat),x1.at_⟩:TFrame))) 1003 102 508 a1 8 rfl rfl rfl (atD hx2) rfl rfl (setD rfl) rfl rfl rfl rfl rfl rfl) (fun _=>?_)
 refine kp [(0,_),(1,_),(9,_),(10,_),(12,_),(13,_)] [(10,_),(28,_),(508,_),(1000,_),(1001,_),(1002,_),(1003,_)] ?_
 refine gor hn ?_
 obtain ⟨r25,hr26,h⟩:=bindM h
 show CallOk Try.prog _ _ _ _
 refine cF ((((run_machine_enter_c1_0_ok N (⟨(⟨a0.w.classes,a0.w.heap,a0.w.epoch⟩:Wd),a0.fuel,a0.sends,a0.turns,(a0.frames.set a1 (⟨x1.class_,x1.method,x1.fast,x1.code,x1.self_,x1.args,x1.temps,(x1.stack.take (wr ((wr ((x1.stack.length:Int) - a2.a)) - (1:Int))).toNat),x1.at_⟩:TFrame)),a0.back,a0.err⟩:TMachine) gl gq r19.1 r19.2 x7 r5 hgl hgq r25 hr26).sw 1005 508).sw 5 509).sw 4 510) ?_
 refine EOk.done ?_
 obtain rfl:=Option.some.inj h
 exact ⟨[(4,510),(5,509)],_,fm⟩

/- (*run.machine).jump -/
set_option maxRecDepth 100000 in
set_option maxHeartbeats 8000000 in
theorem run_machine_jump_c1_0_ok (N:Nat) (a0:TMachine) (gl:St→Int→ByteArray→Option (Int×Int)) (gq:Int→Int→Option (Fs×Bool)) (a1:Nat) (a2:Int) {Kl:Nat} {cl_0:List AV} (hgl:∀x0_ x1_ x2_ y_,gl x0_ x1_ x2_=some y_→Spec Try.prog Kl [] [.agg (eSt x0_),.int x1_,.str x2_,.fp cl_0] (.tup [.int y_.1,.int y_.2]) [] []) {Kq:Nat} (hgq:∀x0_ x1_ y_,gq x0_ x1_=some y_→Spec Try.prog Kq [] [.int x0_,.int x1_] (.tup [.agg (eFs y_.1),.bool y_.2]) [] []) (r:TMachine) (h:run_machine_jump N a0 gl gq a1 a2=some r):Spec Try.prog 94 [(1000,.box [.ptr 1001 0,.fn Kl [.fp cl_0],.fn Kq [],.int a0.fuel,.int a0.sends,.int a0.turns,.own 1003,.int a0.back.k,.int a0.back.n,.int a0.err] 123),(1003,.deep 10 160 [(7,(2,27)),(8,(2,27))] (List.map eTFrame a0.frames) [] 1005)] [.ptr 1000 0,.ep 1003 a1 10 0,.int a2] (.tup []) [(1000,.box [.ptr 1001 0,.fn Kl [.fp cl_0],.fn Kq [],.int r.fuel,.int r.sends,.int r.turns,.own 1003,.int r.back.k,.int r.back.n,.int r.err] 123),(1003,.deep 10 160 [(7,(2,27)),(8,(2,27))] (List.map eTFrame r.frames) [] 5),(5,.gone)] [5]:=by
 refine Spec.of tabOk Try.func94 rfl Try.ntmps94 (by kernel_rfl) rfl rfl rfl fun Γ hn=>?_
 unfold run_machine_jump at h
 refine COk.snoc ?_
 refine COk.seqQ fun _ A0 _ _=>?_
 refine gos hn ?_
 obtain ⟨x1,hx2,h⟩:=bindM h
 refine ldM hx2 ?_
 obtain ⟨o10,h9,h⟩:=bindM h
 refine jk (ι:={ s // o10=s }) hn (fun s=>[]) (fun s=>[(1000,.box [.ptr 1001 0,.fn Kl [.fp cl_0],.fn Kq [],.int s.1.1,.int s.1.2.1,.int s.1.2.2.1,.own 1003,.int s.1.2.2.2.1,.int s.1.2.2.2.2.1,.int s.1.2.2.2.2.2] 123)]) [(0,_),(1,_),(2,_)] [(1003,_)] (fun _ A1 _ _=>?_) ?_
 ·refine goc hn ?_
  refine bselM h9 (fun hb11 h9=>?_) (fun hb11 h9=>?_)
  ·refine gos hn ?_
   refine Or.inr ?_
   refine gos hn ?_
   obtain ⟨o19,h18,h9⟩:=bindM h9
   refine jk (ι:={ s // o19=s }) hn (fun s=>[]) (fun s=>[(1000,.box [.ptr 1001 0,.fn Kl [.fp cl_0],.fn Kq [],.int s.1.1,.int s.1.2.1,.int s.1.2.2.1,.own 1003,.int s.1.2.2.2.1,.int s.1.2.2.2.2.1,.int s.1.2.2.2.2.2] 123)]) [(0,_),(1,_),(2,_)] [(1003,_)] (fun _ A2 _ _=>?_) ?_
   ·refine goc hn ?_
    refine bselM h18 (fun hb20 h18=>?_) (fun hb20 h18=>?_)
    ·refine kp [(0,_),(1,_),(2,_)] [(1000,_),(1003,_)] ?_
     refine gor hn ?_
     obtain ⟨r21,hr22,h18⟩:=bindM h18
     show CallOk Try.prog _ _ _ _
     refine cA (run_machine_fail_c1_0_ok N (⟨(⟨a0.w.classes,a0.w.heap,a0.w.epoch⟩:Wd),a0.fuel,a0.sends,(wr (a0.turns+(1:Int))),a0.frames,a0.back,a0.err⟩:TMachine) gl gq (16:Int) hgl hgq r21 hr22) ?_
     refine A2 _ _ ?_
     exact jn ⟨_,sj h18⟩ []
    refine gok hn ?_
    refine A2 _ _ ?_
    exact jn ⟨_,sj h18⟩ []
   rintro ⟨⟨v12,v13,v14,v15,v16,v17⟩,rfl⟩
   refine A1 _ _ ?_
   exact jn ⟨_,sj h9⟩ []
  refine gok hn ?_
  refine A1 _ _ ?_
  exact jn ⟨_,sj h9⟩ []
 rintro ⟨⟨v3,v4,v5,v6,v7,v8⟩,rfl⟩
 refine A0 _ _ ?_
 refine gor hn ?_
 refine stD hx2 rfl rfl rfl ?_
 refine Exists.intro (List.map eTFrame (a0.frames.set a1 (⟨x1.class_,x1.method,x1.fast,x1.code,x1.self_,x1.args,x1.temps,x1.stack,a2⟩:TFrame))) (And.intro (setD rfl) ?_)
 refine EOk.gh (Gh.resh 1003 501 rfl rfl rfl rfl) (fun _=>?_)
 refine EOk.done ?_
 obtain rfl:=Option.some.inj h
 exact ⟨[(5,501)],_,fm⟩

/- (*run.frame).pop -/
set_option maxRecDepth 100000 in
set_option maxHeartbeats 8000000 in
theorem run_frame_pop_ok (N:Nat) (fr:(List TFrame)) (a0:Nat) (r:(V×(List TFrame))) (h:run_frame_pop N fr a0=some r):Spec Try.prog 95 [(1003,.deep 10 160 [(7,(2,27)),(8,(2,27))] (List.map eTFrame fr) [] 1005)] [.ep 1003 a0 10 0] (.agg (eV r.1)) [(1003,.deep 10 160 [(7,(2,27)),(8,(2,27))] (List.map eTFrame r.2) [] 5),(5,.gone)] [5]:=by
 refine Spec.of tabOk Try.func95 rfl Try.ntmps95 (by kernel_rfl) rfl rfl rfl fun Γ hn=>?_
 unfold run_frame_pop at h
 refine gos hn ?_
 refine COk.seqQ fun _ A0 _ _=>?_
 obtain ⟨x1,hx2,h⟩:=bindM h
 refine COk.gh (Gh.detach 1003 501 502 a0 8 rfl rfl (atD hx2) rfl rfl rfl rfl rfl rfl rfl rfl) (fun _=>?_)
 refine kp [(0,_),(2,_)] [(2,_),(501,_),(502,_),(1003,_)] ?_
 refine god hn (by kernel_rfl) ?_
 refine holeD hx2 rfl rfl (by decide) rfl ?_
 refine holeD hx2 rfl rfl (by decide) rfl ?_
 refine lenM (fun _=>?_)
 refine Or.inr ?_
 obtain ⟨x4,hx5,h⟩:=bindM h
 refine ownM hx5 ?_
 refine ldM (nthO_some hx5).2 ?_
 refine A0 _ _ ?_
 refine COk.seqQ fun _ A1 _ _=>?_
 refine god hn (by kernel_rfl) ?_
 refine holeD hx2 rfl rfl (by decide) rfl ?_
 refine holeD hx2 rfl rfl (by decide) rfl ?_
 refine lenM (fun _=>?_)
 refine Or.inr ?_
 obtain ⟨hg7,h⟩:=guardM h
 refine takeM hg7 rfl rfl ?_
 refine holeSD hx2 rfl rfl (by decide) ?_
 refine A1 _ _ ?_
 refine COk.gh (Gh.attach (l':=List.map eTFrame (fr.set a0 (⟨x1.class_,x1.method,x1.fast,x1.code,x1.self_,x1.args,x1.temps,(x1.stack.take (wr ((x1.stack.length:Int) - (1:Int))).toNat),x1.at_⟩:TFrame))) 1003 27 503 a0 8 rfl rfl rfl (atD hx2) rfl rfl (setD rfl) rfl rfl rfl rfl rfl rfl) (fun _=>?_)
 refine kp [(0,_),(2,_),(3,_)] [(2,_),(3,_),(503,_),(1003,_)] ?_
 refine gos hn ?_
 refine got hn ?_
 obtain rfl:=Option.some.inj h
 exact ⟨[(5,503)],_,fm⟩

/- (*run.machine).guard -/
set_option maxRecDepth 100000 in
set_option maxHeartbeats 8000000 in
theorem run_machine_guard_c1_0_ok (N:Nat) (a0:TMachine) (gl:St→Int→ByteArray→Option (Int×Int)) (gq:Int→Int→Option (Fs×Bool)) (a1:Nat) (a2:Ins) {Kl:Nat} {cl_0:List AV} (hgl:∀x0_ x1_ x2_ y_,gl x0_ x1_ x2_=some y_→Spec Try.prog Kl [] [.agg (eSt x0_),.int x1_,.str x2_,.fp cl_0] (.tup [.int y_.1,.int y_.2]) [] []) {Kq:Nat} (hgq:∀x0_ x1_ y_,gq x0_ x1_=some y_→Spec Try.prog Kq [] [.int x0_,.int x1_] (.tup [.agg (eFs y_.1),.bool y_.2]) [] []) (r:TMachine) (h:run_machine_guard N a0 gl gq a1 a2=some r):Spec Try.prog 96 [(1000,.box [.ptr 1001 0,.fn Kl [.fp cl_0],.fn Kq [],.int a0.fuel,.int a0.sends,.int a0.turns,.own 1003,.int a0.back.k,.int a0.back.n,.int a0.err] 123),(1001,.box [.sl 4 (List.map eCl a0.w.classes),.own 1002,.int a0.w.epoch] 25),(1002,.deep 2 97 [(1,(2,27))] (List.map eOb a0.w.heap) [] 1004),(1003,.deep 10 160 [(7,(2,27)),(8,(2,27))] (List.map eTFrame a0.frames) [] 1005)] [.ptr 1000 0,.ep 1003 a1 10 0,.agg (eIns a2)] (.tup []) [(1000,.box [.ptr 1001 0,.fn Kl [.fp cl_0],.fn Kq [],.int r.fuel,.int r.sends,.int r.turns,.own 1003,.int r.back.k,.int r.back.n,.int r.err] 123),(1001,.box [.sl 4 (List.map eCl a0.w.classes),.own 1002,.int a0.w.epoch] 25),(1002,.deep 2 97 [(1,(2,27))] (List.map eOb a0.w.heap) [] 1004),(1003,.deep 10 160 [(7,(2,27)),(8,(2,27))] (List.map eTFrame r.frames) [] 5),(5,.gone)] [5]:=by
 refine Spec.of tabOk Try.func96 rfl Try.ntmps96 (by kernel_rfl) rfl rfl rfl fun Γ hn=>?_
 unfold run_machine_guard at h
 refine COk.snoc ?_
 refine gos hn ?_
 refine COk.seqQ fun _ A0 _ R0=>?_
 refine COk.seqQ fun _ A1 _ _=>?_
 obtain ⟨x1,hx2,h⟩:=bindM h
 refine COk.gh (Gh.detach 1003 501 502 a1 8 rfl rfl (atD hx2) rfl rfl rfl rfl rfl rfl rfl rfl) (fun _=>?_)
 refine kp [(0,_),(1,_),(5,_)] [(5,_),(501,_),(502,_),(1000,_),(1001,_),(1002,_),(1003,_)] ?_
 refine god hn (by kernel_rfl) ?_
 refine holeD hx2 rfl rfl (by decide) rfl ?_
 refine holeD hx2 rfl rfl (by decide) rfl ?_
 refine lenM (fun _=>?_)
 refine Or.inr ?_
 refine Or.inr ?_
 obtain ⟨x4,hx5,h⟩:=bindM h
 refine ownM hx5 ?_
 refine ldM (nthO_some hx5).2 ?_
 obtain ⟨r6,hr7,h⟩:=bindM h
 show CallOk Try.prog _ _ _ _
 refine cD (value_Class_ok N a0.w.heap x4 r6 hr7) ?_
 refine A1 _ _ ?_
 refine goc hn ?_
 refine bselM h (fun hb8 h=>?_) (fun hb8 h=>?_)
 ·refine COk.gh (Gh.attach (l':=List.map eTFrame a0.frames) 1003 501 503 a1 8 rfl rfl rfl (atD hx2) rfl rfl (setSelfD hx2 rfl) rfl rfl rfl rfl rfl rfl) (fun _=>?_)
  refine got hn ?_
  refine R0 _ _ ?_
  obtain rfl:=Option.some.inj h
  exact ⟨[(5,503)],_,fm⟩
 refine gok hn ?_
 refine A0 _ _ ?_
 refine COk.seqQ fun _ A2 _ _=>?_
 refine COk.gh (Gh.attach (l':=List.map eTFrame a0.frames) 1003 501 504 a1 8 rfl rfl rfl (atD hx2) rfl rfl (setSelfD hx2 rfl) rfl rfl rfl rfl rfl rfl) (fun _=>?_)
 refine kp [(0,_),(1,_),(5,_)] [(5,_),(504,_),(1000,_),(1001,_),(1002,_),(1003,_)] ?_
 refine god hn (by kernel_rfl) ?_
 refine ldM hx2 ?_
 obtain ⟨x9,hx10,h⟩:=bindM h
 refine idxM hx10 ?_
 refine ldM hx2 ?_
 obtain ⟨x11,hx12,h⟩:=bindM h
 refine idxM hx12 ?_
 refine A2 _ _ ?_
 refine COk.gh (Gh.detach 1003 505 506 a1 7 rfl rfl (atD hx2) rfl rfl rfl rfl rfl rfl rfl rfl) (fun _=>?_)
 refine kp [(0,_),(1,_),(5,_),(6,_)] [(5,_),(505,_),(506,_),(1000,_),(1001,_),(1002,_),(1003,_)] ?_
 refine god hn (by kernel_rfl) ?_
 refine holeD hx2 rfl rfl (by decide) rfl ?_
 obtain ⟨hg13,h⟩:=guardM h
 refine takeM hg13 rfl rfl ?_
 refine stD hx2 rfl rfl rfl ?_
 refine Exists.intro (List.map eTFrame (a0.frames.set a1 (⟨x1.class_,x1.method,false,x1.code,x1.self_,x1.args,x1.temps,x1.stack,x1.at_⟩:TFrame))) (And.intro (setD rfl) ?_)
 refine stD (setAt hx2) rfl rfl rfl ?_
 refine Exists.intro (List.map eTFrame ((a0.frames.set a1 (⟨x1.class_,x1.method,false,x1.code,x1.self_,x1.args,x1.temps,x1.stack,x1.at_⟩:TFrame)).set a1 (⟨x1.class_,x1.method,false,x11.code,x1.self_,x1.args,x1.temps,x1.stack,x1.at_⟩:TFrame))) (And.intro (setD rfl) ?_)
 refine holeSD (setAt (setAt hx2)) rfl rfl (by decide) ?_
 refine stD (setAt (setAt hx2)) rfl rfl rfl ?_
 refine Exists.intro (List.map eTFrame (((a0.frames.set a1 (⟨x1.class_,x1.method,false,x1.code,x1.self_,x1.args,x1.temps,x1.stack,x1.at_⟩:TFrame)).set a1 (⟨x1.class_,x1.method,false,x11.code,x1.self_,x1.args,x1.temps,x1.stack,x1.at_⟩:TFrame)).set a1 (⟨x1.class_,x1.method,false,x11.code,x1.self_,x1.args,x1.temps,x1.stack,a2.c⟩:TFrame))) (And.intro (setD rfl) ?_)
 refine EOk.gh (Gh.attach (l':=List.map eTFrame ((((a0.frames.set a1 (⟨x1.class_,x1.method,false,x1.code,x1.self_,x1.args,x1.temps,x1.stack,x1.at_⟩:TFrame)).set a1 (⟨x1.class_,x1.method,false,x11.code,x1.self_,x1.args,x1.temps,x1.stack,x1.at_⟩:TFrame)).set a1 (⟨x1.class_,x1.method,false,x11.code,x1.self_,x1.args,x1.temps,x1.stack,a2.c⟩:TFrame)).set a1 (⟨x1.class_,x1.method,false,x11.code,x1.self_,x1.args,(x1.temps.take x11.temps.toNat),x1.stack,a2.c⟩:TFrame))) 1003 68 507 a1 7 rfl rfl rfl (atD (setAt (setAt (setAt hx2)))) rfl rfl (setD rfl) rfl rfl rfl rfl rfl rfl) (fun _=>?_)
 refine EOk.done ?_
 obtain rfl:=Option.some.inj h
 exact ⟨[(5,507)],_,fm⟩

/- (*run.machine).move$1 -/
set_option maxRecDepth 100000 in
set_option maxHeartbeats 8000000 in
theorem run_machine_move_1_ok (N:Nat) (a0:V) (fr:(List TFrame)) (b0:Nat) (r:(List TFrame)) (h:run_machine_move_1 N a0 fr b0=some r):Spec Try.prog 117 [(1016,.box [.ep 1019 b0 10 0] 161),(1019,.deep 10 160 [(7,(2,27)),(8,(2,27))] (List.map eTFrame fr) [] 1021)] [.agg (eV a0),.ptr 1016 0] (.tup []) [(1016,.box [.ep 1019 b0 10 0] 161),(1019,.deep 10 160 [(7,(2,27)),(8,(2,27))] (List.map eTFrame r) [] 21),(21,.gone)] [21]:=by
 refine Spec.of tabOk Try.func117 rfl Try.ntmps117 (by kernel_rfl) rfl rfl rfl fun Γ hn=>?_
 unfold run_machine_move_1 at h
 refine COk.snoc ?_
 refine gos hn ?_
 obtain ⟨x1,hx2,h⟩:=bindM h
 refine COk.gh (Gh.detach 1019 501 502 b0 8 rfl rfl (atD hx2) rfl rfl rfl rfl rfl rfl rfl rfl) (fun _=>?_)
 refine kp [(1,_),(2,_)] [(2,_),(501,_),(502,_),(1016,_),(1019,_)] ?_
 refine god hn (by kernel_rfl) ?_
 refine holeD hx2 rfl rfl (by decide) rfl ?_
 refine Exists.intro (List.map eV [a0]) (And.intro (by repeat (first|exact trivial|exact rfl|(refine And.intro ?_ ?_))) ?_)
 obtain ⟨hg3,h⟩:=guardM h
 refine appM (l2:=[a0]) hg3 (leLs_refl _) ?_
 refine holeSD hx2 rfl rfl (by decide) ?_
 refine EOk.gh (Gh.attach (l':=List.map eTFrame (fr.set b0 (⟨x1.class_,x1.method,x1.fast,x1.code,x1.self_,x1.args,x1.temps,(x1.stack++[a0]),x1.at_⟩:TFrame))) 1019 10 503 b0 8 rfl rfl rfl (atD hx2) rfl rfl (setD rfl) rfl rfl rfl rfl rfl rfl) (fun _=>?_)
 refine EOk.done ?_
 obtain rfl:=Option.some.inj h
 exact ⟨[(21,503)],_,fm⟩

/- (*run.machine).move$1 -/
set_option maxRecDepth 100000 in
set_option maxHeartbeats 8000000 in
theorem run_machine_move_1_T_ok (N:Nat) (a0:V) (fr:(List TFrame)) (b0:Nat) (r:(List TFrame)) (h:run_machine_move_1_T N a0 fr b0=some r):Spec Try.prog 117 [(1016,.box [.ep 1019 b0 10 0] 161),(1019,.deep 10 160 [(7,(2,27)),(8,(2,27))] (List.map eTFrame fr) [(b0,7,1022)] 1021)] [.agg (eV a0),.ptr 1016 0] (.tup []) [(1016,.box [.ep 1019 b0 10 0] 161),(1019,.deep 10 160 [(7,(2,27)),(8,(2,27))] (List.map eTFrame r) [(b0,7,1022)] 21),(21,.gone)] [21]:=by
 refine Spec.of tabOk Try.func117 rfl Try.ntmps117 (by kernel_rfl) rfl rfl rfl fun Γ hn=>?_
 unfold run_machine_move_1_T at h
 refine COk.snoc ?_
 refine gos hn ?_
 obtain ⟨x1,hx2,h⟩:=bindM h
 refine COk.gh (Gh.detach 1019 501 502 b0 8 rfl rfl (atD hx2) rfl rfl rfl rfl rfl rfl rfl rfl) (fun _=>?_)
 refine kp [(1,_),(2,_)] [(2,_),(501,_),(502,_),(1016,_),(1019,_)] ?_
 refine god hn (by kernel_rfl) ?_
 refine holeD hx2 rfl rfl (by decide) rfl ?_
 refine Exists.intro (List.map eV [a0]) (And.intro (by repeat (first|exact trivial|exact rfl|(refine And.intro ?_ ?_))) ?_)
 obtain ⟨hg3,h⟩:=guardM h
 refine appM (l2:=[a0]) hg3 (leLs_refl _) ?_
 refine holeSD hx2 rfl rfl (by decide) ?_
 refine EOk.gh (Gh.attach (l':=List.map eTFrame (fr.set b0 (⟨x1.class_,x1.method,x1.fast,x1.code,x1.self_,x1.args,x1.temps,(x1.stack++[a0]),x1.at_⟩:TFrame))) 1019 10 503 b0 8 rfl rfl rfl (atD hx2) rfl rfl (setD rfl) rfl rfl rfl rfl rfl rfl) (fun _=>?_)
 refine EOk.done ?_
 obtain rfl:=Option.some.inj h
 exact ⟨[(21,503)],_,fm⟩

/- value.Slot -/
set_option maxRecDepth 100000 in
set_option maxHeartbeats 8000000 in
theorem value_Slot_ok (N:Nat) (a0:(List Ob)) (a1:V) (a2:Int) (r:V) (h:value_Slot N a0 a1 a2=some r):Spec Try.prog 118 [] [.sl 2 (List.map eOb a0),.agg (eV a1),.int a2] (.agg (eV r)) [] []:=by
 refine Spec.of tabOk Try.func118 rfl Try.ntmps118 (by kernel_rfl) rfl rfl rfl fun Γ hn=>?_
 unfold value_Slot at h
 refine gos hn ?_
 refine COk.seqQ fun _ A0 _ R0=>?_
 refine COk.seqQ fun _ A1 _ _=>?_
 obtain ⟨o3,h2,h⟩:=bindM h
 refine jk (ι:={ s // o3=s }) hn (fun s=>[(36,.bool s.1)]) (fun s=>[]) [(0,_),(2,_),(4,_),(6,_)] [(4,_),(6,_)] (fun _ A2 _ _=>?_) ?_
 ·refine gor hn ?_
  refine bselM h2 (fun hb4 h2=>?_) (fun hb4 h2=>?_)
  ·refine bselT hb4 ?_
   refine bselT hb4 ?_
   refine bselT hb4 ?_
   refine A2 _ _ ?_
   exact jn ⟨_,sj h2⟩ []
  refine bselF hb4 ?_
  refine bselF hb4 ?_
  refine bselF hb4 ?_
  refine bselM h2 (fun hb5 h2=>?_) (fun hb5 h2=>?_)
  ·refine bselT hb5 ?_
   refine bselT hb5 ?_
   refine bselT hb5 ?_
   refine bselT hb5 ?_
   refine bselT hb5 ?_
   refine A2 _ _ ?_
   exact jn ⟨_,sj h2⟩ []
  refine bselF hb5 ?_
  refine bselF hb5 ?_
  refine bselF hb5 ?_
  refine lenM (fun _=>?_)
  refine bselF hb5 ?_
  refine bselF hb5 ?_
  refine bselM h2 (fun hb7 h2=>?_) (fun hb7 h2=>?_)
  ·refine bselT hb7 ?_
   refine bselT hb7 ?_
   refine A2 _ _ ?_
   exact jn ⟨_,sj h2⟩ []
  refine bselF hb7 ?_
  refine bselF hb7 ?_
  refine bselM h2 (fun hb8 h2=>?_) (fun hb8 h2=>?_)
  ·refine bselT hb8 ?_
   refine bselT hb8 ?_
   refine bselT hb8 ?_
   refine bselT hb8 ?_
   refine bselT hb8 ?_
   refine bselT hb8 ?_
   refine bselT hb8 ?_
   refine bselT hb8 ?_
   refine bselT hb8 ?_
   refine A2 _ _ ?_
   exact jn ⟨_,sj h2⟩ []
  refine bselF hb8 ?_
  refine bselF hb8 ?_
  refine bselF hb8 ?_
  refine bselF hb8 ?_
  obtain ⟨x9,hx10,h2⟩:=bindM h2
  refine idxM hx10 ?_
  refine bselF hb8 ?_
  refine bselF hb8 ?_
  refine bselF hb8 ?_
  refine lenM (fun _=>?_)
  refine bselF hb8 ?_
  refine bselF hb8 ?_
  refine A2 _ _ ?_
  exact jn ⟨_,sj h2⟩ []
 rintro ⟨v1,hv_⟩
 replace hv_:=hv_.symm
 subst hv_
 refine A1 _ _ ?_
 refine goc hn ?_
 refine bselM h (fun hb12 h=>?_) (fun hb12 h=>?_)
 ·refine gos hn ?_
  refine got hn ?_
  refine R0 _ _ ?_
  obtain rfl:=Option.some.inj h
  exact ⟨[],_,fm⟩
 refine gok hn ?_
 refine A0 _ _ ?_
 refine gos hn ?_
 obtain ⟨x13,hx14,h⟩:=bindM h
 refine idxM hx14 ?_
 obtain ⟨x15,hx16,h⟩:=bindM h
 refine idxM hx16 ?_
 refine got hn ?_
 obtain rfl:=Option.some.inj h
 exact ⟨[],_,fm⟩

/- (*run.machine).move$1 -/
set_option maxRecDepth 100000 in
set_option maxHeartbeats 8000000 in
theorem run_machine_move_1_S_ok (N:Nat) (a0:V) (sk:(List V)) (fr:(List TFrame)) (b0:Nat) (r:(List V)) (h:run_machine_move_1_S N a0 sk fr b0=some r):Spec Try.prog 117 [(1016,.box [.ep 1019 b0 10 0] 161),(1019,.deep 10 160 [(7,(2,27)),(8,(2,27))] (List.map eTFrame fr) [(b0,8,1022)] 1021),(1022,.row 2 (List.map eV sk) 27)] [.agg (eV a0),.ptr 1016 0] (.tup []) [(1016,.box [.ep 1019 b0 10 0] 161),(1019,.deep 10 160 [(7,(2,27)),(8,(2,27))] (List.map eTFrame fr) [(b0,8,22)] 1021),(22,.row 2 (List.map eV r) 27),(1022,.gone)] [22]:=by
 refine Spec.of tabOk Try.func117 rfl Try.ntmps117 (by kernel_rfl) rfl rfl rfl fun Γ hn=>?_
 unfold run_machine_move_1_S at h
 refine COk.snoc ?_
 refine gos hn ?_
 refine god hn (by kernel_rfl) ?_
 obtain ⟨x1,hx2,h⟩:=bindM h
 refine holeD hx2 rfl rfl (by decide) rfl ?_
 refine Exists.intro (List.map eV [a0]) (And.intro (by repeat (first|exact trivial|exact rfl|(refine And.intro ?_ ?_))) ?_)
 obtain ⟨hg3,h⟩:=guardM h
 refine appM (l2:=[a0]) hg3 (leLs_refl _) ?_
 refine holeSD hx2 rfl rfl (by decide) ?_
 refine EOk.done ?_
 obtain rfl:=Option.some.inj h
 exact ⟨[(22,10)],_,fm⟩

/- (*run.frame).pop -/
set_option maxRecDepth 100000 in
set_option maxHeartbeats 8000000 in
theorem run_frame_pop_T_ok (N:Nat) (fr:(List TFrame)) (a0:Nat) (r:(V×(List TFrame))) (h:run_frame_pop_T N fr a0=some r):Spec Try.prog 95 [(1003,.deep 10 160 [(7,(2,27)),(8,(2,27))] (List.map eTFrame fr) [(a0,7,1006)] 1005)] [.ep 1003 a0 10 0] (.agg (eV r.1)) [(1003,.deep 10 160 [(7,(2,27)),(8,(2,27))] (List.map eTFrame r.2) [(a0,7,1006)] 5),(5,.gone)] [5]:=by
 refine Spec.of tabOk Try.func95 rfl Try.ntmps95 (by kernel_rfl) rfl rfl rfl fun Γ hn=>?_
 unfold run_frame_pop_T at h
 refine gos hn ?_
 refine COk.seqQ fun _ A0 _ _=>?_
 obtain ⟨x1,hx2,h⟩:=bindM h
 refine COk.gh (Gh.detach 1003 501 502 a0 8 rfl rfl (atD hx2) rfl rfl rfl rfl rfl rfl rfl rfl) (fun _=>?_)
 refine kp [(0,_),(2,_)] [(2,_),(501,_),(502,_),(1003,_)] ?_
 refine god hn (by kernel_rfl) ?_
 refine holeD hx2 rfl rfl (by decide) rfl ?_
 refine holeD hx2 rfl rfl (by decide) rfl ?_
 refine lenM (fun _=>?_)
 refine Or.inr ?_
 obtain ⟨x4,hx5,h⟩:=bindM h
 refine ownM hx5 ?_
 refine ldM (nthO_some hx5).2 ?_
 refine A0 _ _ ?_
 refine COk.seqQ fun _ A1 _ _=>?_
 refine god hn (by kernel_rfl) ?_
 refine holeD hx2 rfl rfl (by decide) rfl ?_
 refine holeD hx2 rfl rfl (by decide) rfl ?_
 refine lenM (fun _=>?_)
 refine Or.inr ?_
 obtain ⟨hg7,h⟩:=guardM h
 refine takeM hg7 rfl rfl ?_
 refine holeSD hx2 rfl rfl (by decide) ?_
 refine A1 _ _ ?_
 refine COk.gh (Gh.attach (l':=List.map eTFrame (fr.set a0 (⟨x1.class_,x1.method,x1.fast,x1.code,x1.self_,x1.args,x1.temps,(x1.stack.take (wr ((x1.stack.length:Int) - (1:Int))).toNat),x1.at_⟩:TFrame))) 1003 27 503 a0 8 rfl rfl rfl (atD hx2) rfl rfl (setD rfl) rfl rfl rfl rfl rfl rfl) (fun _=>?_)
 refine kp [(0,_),(2,_),(3,_)] [(2,_),(3,_),(503,_),(1003,_)] ?_
 refine gos hn ?_
 refine got hn ?_
 obtain rfl:=Option.some.inj h
 exact ⟨[(5,503)],_,fm⟩

/- (*run.machine).put -/
set_option maxRecDepth 100000 in
set_option maxHeartbeats 8000000 in
theorem run_machine_put_c1_0_ok (N:Nat) (a0:TMachine) (gl:St→Int→ByteArray→Option (Int×Int)) (gq:Int→Int→Option (Fs×Bool)) (a1:V) (a2:Int) (a3:V) {Kl:Nat} {cl_0:List AV} (hgl:∀x0_ x1_ x2_ y_,gl x0_ x1_ x2_=some y_→Spec Try.prog Kl [] [.agg (eSt x0_),.int x1_,.str x2_,.fp cl_0] (.tup [.int y_.1,.int y_.2]) [] []) {Kq:Nat} (hgq:∀x0_ x1_ y_,gq x0_ x1_=some y_→Spec Try.prog Kq [] [.int x0_,.int x1_] (.tup [.agg (eFs y_.1),.bool y_.2]) [] []) (r:TMachine) (h:run_machine_put N a0 gl gq a1 a2 a3=some r):Spec Try.prog 119 [(1000,.box [.ptr 1001 0,.fn Kl [.fp cl_0],.fn Kq [],.int a0.fuel,.int a0.sends,.int a0.turns,.own 1003,.int a0.back.k,.int a0.back.n,.int a0.err] 123),(1001,.box [.sl 4 (List.map eCl a0.w.classes),.own 1002,.int a0.w.epoch] 25),(1002,.deep 2 97 [(1,(2,27))] (List.map eOb a0.w.heap) [] 1004)] [.ptr 1000 0,.agg (eV a1),.int a2,.agg (eV a3)] (.tup []) [(1000,.box [.ptr 1001 0,.fn Kl [.fp cl_0],.fn Kq [],.int r.fuel,.int r.sends,.int r.turns,.own 1003,.int r.back.k,.int r.back.n,.int r.err] 123),(1001,.box [.sl 4 (List.map eCl a0.w.classes),.own 1002,.int a0.w.epoch] 25),(1002,.deep 2 97 [(1,(2,27))] (List.map eOb r.w.heap) [] 3),(3,.gone)] [3]:=by
 refine Spec.of tabOk Try.func119 rfl Try.ntmps119 (by kernel_rfl) rfl rfl rfl fun Γ hn=>?_
 unfold run_machine_put at h
 refine COk.snoc ?_
 refine gos hn ?_
 refine COk.seqQ fun _ A0 _ _=>?_
 obtain ⟨o3,h2,h⟩:=bindM h
 refine jk (ι:={ s // o3=s }) hn (fun s=>[(40,.bool s.1)]) (fun s=>[(501,.gone),(1002,.deep 2 97 [(1,(2,27))] (List.map eOb a0.w.heap) [] 501)]) [(0,_),(2,_),(5,_),(7,_)] [(5,_),(7,_),(1000,_),(1001,_)] (fun _ A1 _ _=>?_) ?_
 ·rcases optM h2 with ⟨hx5,h2⟩|⟨x4,hx5,h2⟩
  ·refine kp [(0,_),(2,_),(5,_),(7,_)] [(5,_),(7,_),(1000,_),(1001,_),(1002,_)] ?_
   refine god hn (by kernel_rfl) ?_
   refine bselM h2 (fun hb6 h2=>?_) (fun hb6 h2=>?_)
   ·refine bselT hb6 ?_
    refine bselT hb6 ?_
    refine bselT hb6 ?_
    refine bselT hb6 ?_
    refine bselT hb6 ?_
    refine bselT hb6 ?_
    refine bselT hb6 ?_
    refine bselT hb6 ?_
    refine bselT hb6 ?_
    refine lenM (fun _=>?_)
    refine bselT hb6 ?_
    refine bselT hb6 ?_
    refine bselM h2 (fun hb8 h2=>?_) (fun hb8 h2=>?_)
    ·refine bselT hb8 ?_
     refine bselT hb8 ?_
     refine bselT hb8 ?_
     refine bselT hb8 ?_
     refine bselT hb8 ?_
     refine bselT hb8 ?_
     refine bselT hb8 ?_
     refine bselT hb8 ?_
     refine bselT hb8 ?_
     refine bselT hb8 ?_
     cases h2
    refine bselF hb8 ?_
    refine bselF hb8 ?_
    refine bselF hb8 ?_
    refine bselF hb8 ?_
    refine bselF hb8 ?_
    refine bselF hb8 ?_
    refine bselF hb8 ?_
    refine bselF hb8 ?_
    refine bselF hb8 ?_
    refine bselF hb8 ?_
    refine bselF hb8 ?_
    refine bselF hb8 ?_
    refine bselF hb8 ?_
    refine bselF hb8 ?_
    refine bselF hb8 ?_
    refine A1 _ _ ?_
    refine EOk.gh (Gh.resh 1002 501 rfl rfl rfl rfl) (fun _=>?_)
    exact jn ⟨_,sj h2⟩ []
   refine bselF hb6 ?_
   refine bselF hb6 ?_
   refine bselF hb6 ?_
   refine bselF hb6 ?_
   refine bselF hb6 ?_
   refine bselF hb6 ?_
   refine bselF hb6 ?_
   refine bselF hb6 ?_
   refine bselF hb6 ?_
   refine bselF hb6 ?_
   refine bselF hb6 ?_
   refine A1 _ _ ?_
   refine EOk.gh (Gh.resh 1002 502 rfl rfl rfl rfl) (fun _=>?_)
   exact jn ⟨_,sj h2⟩ [(501,502)]
  refine COk.gh (Gh.detach 1002 503 504 a1.n.toNat 1 rfl rfl (atD hx5) rfl rfl rfl rfl rfl rfl rfl rfl) (fun _=>?_)
  refine kp [(0,_),(2,_),(5,_),(7,_)] [(5,_),(7,_),(503,_),(504,_),(1000,_),(1001,_),(1002,_)] ?_
  refine god hn (by kernel_rfl) ?_
  refine bselM h2 (fun hb9 h2=>?_) (fun hb9 h2=>?_)
  ·refine bselT hb9 ?_
   refine bselT hb9 ?_
   refine bselT hb9 ?_
   refine bselT hb9 ?_
   refine bselT hb9 ?_
   refine bselT hb9 ?_
   refine bselT hb9 ?_
   refine bselT hb9 ?_
   refine bselT hb9 ?_
   refine lenM (fun _=>?_)
   refine bselT hb9 ?_
   refine bselT hb9 ?_
   refine bselM h2 (fun hb11 h2=>?_) (fun hb11 h2=>?_)
   ·refine bselT hb11 ?_
    refine bselT hb11 ?_
    refine bselT hb11 ?_
    refine bselT hb11 ?_
    refine bselT hb11 ?_
    refine bselT hb11 ?_
    refine bselT hb11 ?_
    refine bselT hb11 ?_
    refine bselT hb11 ?_
    refine bselT hb11 ?_
    obtain ⟨x12,hx13,h2⟩:=bindM h2
    refine ixD hx13 rfl rfl ?_
    refine bselT hb11 ?_
    refine bselT hb11 ?_
    refine holeD hx5 rfl rfl (by decide) rfl ?_
    refine bselT hb11 ?_
    refine lenM (fun _=>?_)
    refine bselT hb11 ?_
    refine bselT hb11 ?_
    refine A1 _ _ ?_
    refine EOk.gh (Gh.attach (l':=List.map eOb a0.w.heap) 1002 503 505 a1.n.toNat 1 rfl rfl rfl (atD hx5) rfl rfl (setSelfD hx5 rfl) rfl rfl rfl rfl rfl rfl) (fun _=>?_)
    exact jn ⟨_,sj h2⟩ [(501,505)]
   refine bselF hb11 ?_
   refine bselF hb11 ?_
   refine bselF hb11 ?_
   refine bselF hb11 ?_
   refine bselF hb11 ?_
   refine bselF hb11 ?_
   refine bselF hb11 ?_
   refine bselF hb11 ?_
   refine bselF hb11 ?_
   refine bselF hb11 ?_
   refine bselF hb11 ?_
   refine bselF hb11 ?_
   refine bselF hb11 ?_
   refine bselF hb11 ?_
   refine bselF hb11 ?_
   refine A1 _ _ ?_
   refine EOk.gh (Gh.attach (l':=List.map eOb a0.w.heap) 1002 503 506 a1.n.toNat 1 rfl rfl rfl (atD hx5) rfl rfl (setSelfD hx5 rfl) rfl rfl rfl rfl rfl rfl) (fun _=>?_)
   exact jn ⟨_,sj h2⟩ [(501,506)]
  refine bselF hb9 ?_
  refine bselF hb9 ?_
  refine bselF hb9 ?_
  refine bselF hb9 ?_
  refine bselF hb9 ?_
  refine bselF hb9 ?_
  refine bselF hb9 ?_
  refine bselF hb9 ?_
  refine bselF hb9 ?_
  refine bselF hb9 ?_
  refine bselF hb9 ?_
  refine A1 _ _ ?_
  refine EOk.gh (Gh.attach (l':=List.map eOb a0.w.heap) 1002 503 507 a1.n.toNat 1 rfl rfl rfl (atD hx5) rfl rfl (setSelfD hx5 rfl) rfl rfl rfl rfl rfl rfl) (fun _=>?_)
  exact jn ⟨_,sj h2⟩ [(501,507)]
 rintro ⟨v1,hv_⟩
 replace hv_:=hv_.symm
 subst hv_
 refine A0 _ _ ?_
 obtain ⟨o17,h16,h⟩:=bindM h
 refine jk (ι:={ s // o17=s }) hn (fun s=>[]) (fun s=>[(508,.gone),(1002,.deep 2 97 [(1,(2,27))] (List.map eOb s.1) [] 508)]) [(0,_)] [(1000,_),(1001,_)] (fun _ A2 _ _=>?_) ?_
 ·refine goc hn ?_
  refine bselM h16 (fun hb18 h16=>?_) (fun hb18 h16=>?_)
  ·rcases optM h16 with ⟨hx20,h16⟩|⟨x19,hx20,h16⟩
   ·refine god hn (by kernel_rfl) ?_
    cases h16
   refine COk.gh (Gh.detach 1002 508 509 a1.n.toNat 1 rfl rfl (atD hx20) rfl rfl rfl rfl rfl rfl rfl rfl) (fun _=>?_)
   refine kp [(0,_),(2,_),(5,_),(7,_)] [(5,_),(7,_),(508,_),(509,_),(1000,_),(1001,_),(1002,_)] ?_
   refine god hn (by kernel_rfl) ?_
   obtain ⟨x21,hx22,h16⟩:=bindM h16
   refine ixD hx22 rfl rfl ?_
   refine holeD hx20 rfl rfl (by decide) rfl ?_
   obtain ⟨x23,hx24,h16⟩:=bindM h16
   refine ownM hx24 ?_
   refine ldM (nthO_some hx24).2 ?_
   refine Exists.intro (List.map eV (x19.slots.set a2.toNat a3)) (And.intro (leLs_set (nthO_some hx24).2 (by repeat (first|exact trivial|exact rfl|(refine And.intro ?_ ?_)))) ?_)
   refine A2 _ _ ?_
   refine EOk.gh (Gh.attach (l':=List.map eOb (a0.w.heap.set a1.n.toNat (⟨x19.cls,(x19.slots.set a2.toNat a3)⟩:Ob))) 1002 508 510 a1.n.toNat 1 rfl rfl rfl (atD hx20) rfl rfl (setD rfl) rfl rfl rfl rfl rfl rfl) (fun _=>?_)
   exact jn ⟨_,sj h16⟩ [(508,510)]
  refine gok hn ?_
  refine A2 _ _ ?_
  exact jn ⟨_,sj h16⟩ [(508,501)]
 rintro ⟨v15,hv_⟩
 replace hv_:=hv_.symm
 subst hv_
 refine EOk.done ?_
 obtain rfl:=Option.some.inj h
 exact ⟨[(3,508)],_,fm⟩

/- class.Slots -/
set_option maxRecDepth 100000 in
set_option maxHeartbeats 8000000 in
theorem class_Slots_ok (N:Nat) (a0:Wd) (a1:Int) (r:Int) (h:class_Slots N a0 a1=some r):Spec Try.prog 121 [] [.agg (eWd a0),.int a1] (.int r) [] []:=by
 refine Spec.of tabOk Try.func121 rfl Try.ntmps121 (by kernel_rfl) rfl rfl rfl fun Γ hn=>?_
 unfold class_Slots at h
 refine gos hn ?_
 refine gos hn ?_
 refine COk.seqQ fun _ A0 _ _=>?_
 refine gos hn ?_
 obtain ⟨o9,h10,h⟩:=bindM h
 refine jk (ι:={ s // o9=s }) hn (fun s=>[(5,.int s.1)]) (fun s=>[]) [] [] (fun _ A1 _ _=>?_) ?_
 ·refine COk.blkQ fun _ _ E2 _ _=>?_
  refine lq (ι:={ q:(Nat×Int×Int×Int) // class_Slots_l1 N a0 q.1 q.2.1 q.2.2.1 q.2.2.2=some o9 }) hn (fun q=>[(1,.int q.1.2.1),(5,.int q.1.2.2.1),(6,.int q.1.2.2.2)]) (fun q=>[]) (fun q=>q.1.1) [(2,_)] [(2,_)] ⟨(N,a1,(0:Int),(0:Int)),h10⟩ [] ?_
  rintro ⟨⟨n_,v2,v3,v4⟩,h10⟩ _ A3 X3 _
  rcases n_ with _|n13
  ·rw [class_Slots_l1.eq_1] at h10
   cases h10
  ·replace h10:=(class_Slots_l1.eq_2 _ _ _ _ _ _).symm.trans h10
   refine COk.seqQ fun _ A4 X4 _=>?_
   refine COk.seqQ fun _ A5 _ _=>?_
   obtain ⟨o16,h15,h10⟩:=bindM h10
   refine jk (ι:={ s // o16=s }) hn (fun s=>[(22,.bool s.1)]) (fun s=>[]) [(1,_),(2,_),(5,_),(6,_)] [(2,_)] (fun _ A6 _ _=>?_) ?_
   ·refine gor hn ?_
    refine bselM h15 (fun hb17 h15=>?_) (fun hb17 h15=>?_)
    ·refine bselT hb17 ?_
     refine bselT hb17 ?_
     refine bselT hb17 ?_
     refine lenM (fun _=>?_)
     refine bselT hb17 ?_
     refine bselT hb17 ?_
     refine bselM h15 (fun hb19 h15=>?_) (fun hb19 h15=>?_)
     ·refine bselT hb19 ?_
      refine bselT hb19 ?_
      refine bselT hb19 ?_
      refine lenM (fun _=>?_)
      refine bselT hb19 ?_
      refine bselT hb19 ?_
      refine A6 _ _ ?_
      exact jn ⟨_,sj h15⟩ []
     refine bselF hb19 ?_
     refine bselF hb19 ?_
     refine bselF hb19 ?_
     refine bselF hb19 ?_
     refine bselF hb19 ?_
     refine A6 _ _ ?_
     exact jn ⟨_,sj h15⟩ []
    refine bselF hb17 ?_
    refine bselF hb17 ?_
    refine bselF hb17 ?_
    refine bselF hb17 ?_
    refine bselF hb17 ?_
    refine A6 _ _ ?_
    exact jn ⟨_,sj h15⟩ []
   rintro ⟨v14,hv_⟩
   replace hv_:=hv_.symm
   subst hv_
   refine A5 _ _ ?_
   refine goc hn ?_
   refine bselM h10 (fun hb21 h10=>?_) (fun hb21 h10=>?_)
   ·refine gok hn ?_
    refine A4 _ _ ?_
    refine COk.seqQ fun _ A7 _ _=>?_
    refine COk.blkQ fun _ A8 _ _ _=>?_
    refine gos hn ?_
    obtain ⟨x22,hx23,h10⟩:=bindM h10
    refine idxM hx23 ?_
    refine Or.inr ?_
    refine gor hn ?_
    obtain ⟨x24,hx25,h10⟩:=bindM h10
    refine idxM hx25 ?_
    refine A8 _ _ ?_
    refine A7 _ _ ?_
    refine kp [(1,_),(2,_),(5,_),(6,_)] [(2,_)] ?_
    refine gor hn ?_
    refine Or.inr ?_
    refine A3 _ _ ?_
    exact jn ⟨(n13,x24.super,(wr (v3+x22.slots)),(wr (v4+(1:Int)))),h10⟩ [] (by show n13 < n13+1; omega)
   refine goe hn ?_
   refine X4 _ _ _ ?_
   refine X3 _ _ _ ?_
   refine E2 _ _ ?_
   refine A1 _ _ ?_
   exact jn ⟨_,sj h10⟩ []
 rintro ⟨v8,hv_⟩
 replace hv_:=hv_.symm
 subst hv_
 refine A0 _ _ ?_
 refine gos hn ?_
 refine got hn ?_
 obtain rfl:=Option.some.inj h
 exact ⟨[],_,fm⟩

/- value.New -/
set_option maxRecDepth 100000 in
set_option maxHeartbeats 8000000 in
theorem value_New_ok (N:Nat) (a0:(List Ob)) (a1:Int) (a2:Int) (r:((List Ob)×V×Int)) (h:value_New N a0 a1 a2=some r):Spec Try.prog 120 [] [.sl 2 (List.map eOb a0),.int a1,.int a2] (.tup [.own 0,.agg (eV r.2.1),.int r.2.2]) [(0,.deep 2 97 [(1,(2,27))] (List.map eOb r.1) [] 1),(1,.gone)] [0,1]:=by
 refine Spec.of tabOk Try.func120 rfl Try.ntmps120 (by kernel_rfl) rfl rfl rfl fun Γ hn=>?_
 unfold value_New at h
 refine gos hn ?_
 refine COk.seqQ fun _ A0 _ R0=>?_
 refine gos hn ?_
 refine lenM (fun _=>?_)
 refine goc hn ?_
 refine bselM h (fun hb2 h=>?_) (fun hb2 h=>?_)
 ·refine gos hn ?_
  refine COk.nilrow 6 206 2 97 rfl rfl rfl ?_
  refine COk.gh (Gh.toDeep 206 501 [(1,(2,27))] rfl rfl rfl rfl) (fun _=>?_)
  refine got hn ?_
  refine R0 _ _ ?_
  obtain rfl:=Option.some.inj h
  exact ⟨[(0,206),(1,501)],_,fm⟩
 refine gok hn ?_
 refine A0 _ _ ?_
 refine COk.seqQ fun _ A1 _ _=>?_
 refine god hn (by kernel_rfl) ?_
 obtain ⟨r3,hr4,h⟩:=bindM h
 show CallOk Try.prog _ _ _ _
 refine cA (((value_Own_ok N a0 r3 hr4).sw 0 14).sw 1 714) ?_
 obtain ⟨hg5,h⟩:=guardM h
 refine mkM (enc:=eV) (x:=(⟨(0:Int),(0:Int)⟩:V)) hg5 (by repeat (first|exact trivial|exact rfl|(refine And.intro ?_ ?_))) ?_
 refine Or.inl ?_
 refine Exists.intro [(1,(2,27))] (Exists.intro (eOb (⟨a1,(List.replicate (max a2 (0:Int)).toNat (⟨(0:Int),(0:Int)⟩:V))⟩:Ob)) (Exists.intro [(18,.row 2 (List.map eV (List.replicate (max a2 (0:Int)).toNat (⟨(0:Int),(0:Int)⟩:V))) 27)] (And.intro rfl (And.intro rfl (And.intro rfl (And.intro (by decide) (And.intro (by decide) (And.intro rfl (And.intro rfl ?_)))))))))
 obtain ⟨hg6,h⟩:=guardM h
 refine appD (l2:=[(⟨a1,(List.replicate (max a2 (0:Int)).toNat (⟨(0:Int),(0:Int)⟩:V))⟩:Ob)]) hg6 rfl rfl rfl rfl rfl (by decide) (by decide) ?_
 refine lenM (fun _=>?_)
 refine A1 _ _ ?_
 refine got hn ?_
 obtain rfl:=Option.some.inj h
 exact ⟨[(0,21),(1,721)],_,fm⟩

/- (*run.machine).move -/
set_option maxRecDepth 100000 in
set_option maxHeartbeats 8000000 in
theorem run_machine_move_c1_0_ok (N:Nat) (a0:TMachine) (gl:St→Int→ByteArray→Option (Int×Int)) (gq:Int→Int→Option (Fs×Bool)) (a1:Nat) (a2:Ins) {Kl:Nat} {cl_0:List AV} (hgl:∀x0_ x1_ x2_ y_,gl x0_ x1_ x2_=some y_→Spec Try.prog Kl [] [.agg (eSt x0_),.int x1_,.str x2_,.fp cl_0] (.tup [.int y_.1,.int y_.2]) [] []) {Kq:Nat} (hgq:∀x0_ x1_ y_,gq x0_ x1_=some y_→Spec Try.prog Kq [] [.int x0_,.int x1_] (.tup [.agg (eFs y_.1),.bool y_.2]) [] []) (r:TMachine) (h:run_machine_move N a0 gl gq a1 a2=some r):Spec Try.prog 97 [(1000,.box [.ptr 1001 0,.fn Kl [.fp cl_0],.fn Kq [],.int a0.fuel,.int a0.sends,.int a0.turns,.own 1003,.int a0.back.k,.int a0.back.n,.int a0.err] 123),(1001,.box [.sl 4 (List.map eCl a0.w.classes),.own 1002,.int a0.w.epoch] 25),(1002,.deep 2 97 [(1,(2,27))] (List.map eOb a0.w.heap) [] 1004),(1003,.deep 10 160 [(7,(2,27)),(8,(2,27))] (List.map eTFrame a0.frames) [] 1005)] [.ptr 1000 0,.ep 1003 a1 10 0,.agg (eIns a2)] (.tup []) [(1000,.box [.ptr 1001 0,.fn Kl [.fp cl_0],.fn Kq [],.int r.fuel,.int r.sends,.int r.turns,.own 1003,.int r.back.k,.int r.back.n,.int r.err] 123),(1001,.box [.sl 4 (List.map eCl r.w.classes),.own 2,.int r.w.epoch] 25),(2,.deep 2 97 [(1,(2,27))] (List.map eOb r.w.heap) [] 3),(3,.gone),(1002,.gone),(1003,.deep 10 160 [(7,(2,27)),(8,(2,27))] (List.map eTFrame r.frames) [] 5),(5,.gone)] [3,2,5]:=by
 refine Spec.of tabOk Try.func97 rfl Try.ntmps97 (by kernel_rfl) rfl rfl rfl fun Γ hn=>?_
 unfold run_machine_move at h
 refine COk.snoc ?_
 refine gos hn ?_
 refine gos hn ?_
 refine gos hn ?_
 obtain ⟨o10,h9,h⟩:=bindM h
 refine jk (ι:={ s // o10=Ctl.next s }) hn (fun s=>[]) (fun s=>[(186,.deep 2 97 [(1,(2,27))] (List.map eOb s.1.1) [] 518),(501,.gone),(518,.gone),(1000,.box [.ptr 1001 0,.fn Kl [.fp cl_0],.fn Kq [],.int s.1.2.1,.int s.1.2.2.1,.int s.1.2.2.2.1,.own 1003,.int s.1.2.2.2.2.2.1,.int s.1.2.2.2.2.2.2.1,.int s.1.2.2.2.2.2.2.2] 123),(1001,.box [.sl 4 (List.map eCl a0.w.classes),.own 186,.int a0.w.epoch] 25),(1002,.gone),(1003,.deep 10 160 [(7,(2,27)),(8,(2,27))] (List.map eTFrame s.1.2.2.2.2.1) [] 501)]) [(0,_),(1,_)] [] (fun _ A0 _ R0=>?_) ?_
 ·refine COk.blkQ fun _ A1 _ _ R1=>?_
  refine gos hn ?_
  obtain ⟨o20,h19,h9⟩:=bindM h9
  refine jk (ι:={ s // o20=Ctl.next s }) hn (fun s=>[]) (fun s=>[(186,.deep 2 97 [(1,(2,27))] (List.map eOb s.1.1) [] 518),(501,.gone),(518,.gone),(1000,.box [.ptr 1001 0,.fn Kl [.fp cl_0],.fn Kq [],.int s.1.2.1,.int s.1.2.2.1,.int s.1.2.2.2.1,.own 1003,.int s.1.2.2.2.2.2.1,.int s.1.2.2.2.2.2.2.1,.int s.1.2.2.2.2.2.2.2] 123),(1001,.box [.sl 4 (List.map eCl a0.w.classes),.own 186,.int a0.w.epoch] 25),(1002,.gone),(1003,.deep 10 160 [(7,(2,27)),(8,(2,27))] (List.map eTFrame s.1.2.2.2.2.1) [] 501)]) [(0,_),(1,_)] [] (fun _ A2 _ R2=>?_) ?_
  ·refine goc hn ?_
   refine bselM h19 (fun hb21 h19=>?_) (fun hb21 h19=>?_)
   ·refine gor hn ?_
    obtain ⟨x22,hx23,h19⟩:=bindM h19
    refine ldM hx23 ?_
    obtain ⟨r24,hr25,h19⟩:=bindM h19
    show CallOk Try.prog _ _ _ _
    refine cA ((run_machine_move_1_ok N x22.self_ a0.frames a1 r24 hr25).swl [(1016,4),(1019,1003),(1021,1005),(21,501)] rfl) ?_
    refine A2 _ _ ?_
    refine EOk.gh (Gh.reidD 1001 1 1002 502 503 rfl rfl rfl rfl rfl rfl rfl rfl rfl rfl rfl rfl) (fun _=>?_)
    exact jn ⟨_,sj h19⟩ [(186,502),(518,503)]
   refine gos hn ?_
   obtain ⟨o35,h34,h19⟩:=bindM h19
   refine jk (ι:={ s // o35=Ctl.next s }) hn (fun s=>[]) (fun s=>[(186,.deep 2 97 [(1,(2,27))] (List.map eOb s.1.1) [] 520),(504,.gone),(520,.gone),(1000,.box [.ptr 1001 0,.fn Kl [.fp cl_0],.fn Kq [],.int s.1.2.1,.int s.1.2.2.1,.int s.1.2.2.2.1,.own 1003,.int s.1.2.2.2.2.2.1,.int s.1.2.2.2.2.2.2.1,.int s.1.2.2.2.2.2.2.2] 123),(1001,.box [.sl 4 (List.map eCl a0.w.classes),.own 186,.int a0.w.epoch] 25),(1002,.gone),(1003,.deep 10 160 [(7,(2,27)),(8,(2,27))] (List.map eTFrame s.1.2.2.2.2.1) [] 504)]) [(0,_),(1,_)] [] (fun _ A3 _ R3=>?_) ?_
   ·refine goc hn ?_
    refine bselM h34 (fun hb36 h34=>?_) (fun hb36 h34=>?_)
    ·refine god hn (by kernel_rfl) ?_
     obtain ⟨x37,hx38,h34⟩:=bindM h34
     refine ldM hx38 ?_
     obtain ⟨x39,hx40,h34⟩:=bindM h34
     refine idxM hx40 ?_
     obtain ⟨r41,hr42,h34⟩:=bindM h34
     show CallOk Try.prog _ _ _ _
     refine cA ((run_machine_move_1_ok N x39 a0.frames a1 r41 hr42).swl [(1016,4),(1019,1003),(1021,1005),(21,504)] rfl) ?_
     refine A3 _ _ ?_
     refine EOk.gh (Gh.reidD 1001 1 1002 505 506 rfl rfl rfl rfl rfl rfl rfl rfl rfl rfl rfl rfl) (fun _=>?_)
     exact jn ⟨_,sj h34⟩ [(186,505),(520,506)]
    refine gos hn ?_
    obtain ⟨o52,h51,h34⟩:=bindM h34
    refine jk (ι:={ s // o52=Ctl.next s }) hn (fun s=>[]) (fun s=>[(186,.deep 2 97 [(1,(2,27))] (List.map eOb s.1.1) [] 522),(507,.gone),(522,.gone),(1000,.box [.ptr 1001 0,.fn Kl [.fp cl_0],.fn Kq [],.int s.1.2.1,.int s.1.2.2.1,.int s.1.2.2.2.1,.own 1003,.int s.1.2.2.2.2.2.1,.int s.1.2.2.2.2.2.2.1,.int s.1.2.2.2.2.2.2.2] 123),(1001,.box [.sl 4 (List.map eCl a0.w.classes),.own 186,.int a0.w.epoch] 25),(1002,.gone),(1003,.deep 10 160 [(7,(2,27)),(8,(2,27))] (List.map eTFrame s.1.2.2.2.2.1) [] 507)]) [(0,_),(1,_)] [] (fun _ A4 _ R4=>?_) ?_
    ·refine goc hn ?_
     refine bselM h51 (fun hb53 h51=>?_) (fun hb53 h51=>?_)
     ·obtain ⟨x54,hx55,h51⟩:=bindM h51
      refine COk.gh (Gh.detach 1003 507 508 a1 7 rfl rfl (atD hx55) rfl rfl rfl rfl rfl rfl rfl rfl) (fun _=>?_)
      refine kp [(0,_),(1,_),(4,_),(5,_),(6,_)] [(4,_),(5,_),(507,_),(508,_),(1000,_),(1001,_),(1002,_),(1003,_)] ?_
      refine god hn (by kernel_rfl) ?_
      refine holeD hx55 rfl rfl (by decide) rfl ?_
      obtain ⟨x56,hx57,h51⟩:=bindM h51
      refine ownM hx57 ?_
      refine ldM (nthO_some hx57).2 ?_
      obtain ⟨r58,hr59,h51⟩:=bindM h51
      show CallOk Try.prog _ _ _ _
      refine cA ((run_machine_move_1_T_ok N x56 a0.frames a1 r58 hr59).swl [(1022,507),(1016,4),(1019,1003),(1021,508),(21,509)] rfl) ?_
      obtain ⟨x60,hx61,h51⟩:=bindM h51
      refine A4 _ _ ?_
      refine EOk.gh (Gh.attach (l':=List.map eTFrame (r58.set a1 (⟨x60.class_,x60.method,x60.fast,x60.code,x60.self_,x60.args,x54.temps,x60.stack,x60.at_⟩:TFrame))) 1003 507 510 a1 7 rfl rfl rfl (atD hx61) rfl rfl (setD rfl) rfl rfl rfl rfl rfl rfl) (fun _=>?_)
      refine EOk.gh (Gh.reidD 1001 1 1002 511 512 rfl rfl rfl rfl rfl rfl rfl rfl rfl rfl rfl rfl) (fun _=>?_)
      exact jn ⟨_,sj h51⟩ [(186,511),(522,512),(507,510)]
     refine gos hn ?_
     obtain ⟨o71,h70,h51⟩:=bindM h51
     refine jk (ι:={ s // o71=Ctl.next s }) hn (fun s=>[]) (fun s=>[(186,.deep 2 97 [(1,(2,27))] (List.map eOb s.1.1) [] 525),(513,.gone),(525,.gone),(1000,.box [.ptr 1001 0,.fn Kl [.fp cl_0],.fn Kq [],.int s.1.2.1,.int s.1.2.2.1,.int s.1.2.2.2.1,.own 1003,.int s.1.2.2.2.2.2.1,.int s.1.2.2.2.2.2.2.1,.int s.1.2.2.2.2.2.2.2] 123),(1001,.box [.sl 4 (List.map eCl a0.w.classes),.own 186,.int a0.w.epoch] 25),(1002,.gone),(1003,.deep 10 160 [(7,(2,27)),(8,(2,27))] (List.map eTFrame s.1.2.2.2.2.1) [] 513)]) [(0,_),(1,_)] [] (fun _ A5 _ R5=>?_) ?_
     ·refine goc hn ?_
      refine bselM h70 (fun hb72 h70=>?_) (fun hb72 h70=>?_)
      ·refine kp [(0,_),(1,_),(4,_),(5,_),(6,_)] [(4,_),(5,_),(1000,_),(1001,_),(1002,_),(1003,_)] ?_
       refine god hn (by kernel_rfl) ?_
       obtain ⟨x73,hx74,h70⟩:=bindM h70
       refine ldM hx74 ?_
       obtain ⟨r75,hr76,h70⟩:=bindM h70
       show CallOk Try.prog _ _ _ _
       refine cD (value_Slot_ok N a0.w.heap x73.self_ a2.a r75 hr76) ?_
       obtain ⟨r77,hr78,h70⟩:=bindM h70
       show CallOk Try.prog _ _ _ _
       refine cA ((run_machine_move_1_ok N r75 a0.frames a1 r77 hr78).swl [(1016,4),(1019,1003),(1021,1005),(21,513)] rfl) ?_
       refine A5 _ _ ?_
       refine EOk.gh (Gh.reidD 1001 1 1002 514 515 rfl rfl rfl rfl rfl rfl rfl rfl rfl rfl rfl rfl) (fun _=>?_)
       exact jn ⟨_,sj h70⟩ [(186,514),(525,515)]
      refine kp [(0,_),(1,_),(4,_),(5,_),(6,_),(12,_)] [(4,_),(5,_),(1000,_),(1001,_),(1002,_),(1003,_)] ?_
      refine gos hn ?_
      obtain ⟨o88,h87,h70⟩:=bindM h70
      refine jk (ι:={ s // o88=Ctl.next s }) hn (fun s=>[]) (fun s=>[(186,.deep 2 97 [(1,(2,27))] (List.map eOb s.1.1) [] 527),(516,.gone),(527,.gone),(1000,.box [.ptr 1001 0,.fn Kl [.fp cl_0],.fn Kq [],.int s.1.2.1,.int s.1.2.2.1,.int s.1.2.2.2.1,.own 1003,.int s.1.2.2.2.2.2.1,.int s.1.2.2.2.2.2.2.1,.int s.1.2.2.2.2.2.2.2] 123),(1001,.box [.sl 4 (List.map eCl a0.w.classes),.own 186,.int a0.w.epoch] 25),(1002,.gone),(1003,.deep 10 160 [(7,(2,27)),(8,(2,27))] (List.map eTFrame s.1.2.2.2.2.1) [] 516)]) [(0,_),(1,_)] [] (fun _ A6 _ R6=>?_) ?_
      ·refine goc hn ?_
       refine bselM h87 (fun hb89 h87=>?_) (fun hb89 h87=>?_)
       ·refine gor hn ?_
        obtain ⟨r90,hr91,h87⟩:=bindM h87
        show CallOk Try.prog _ _ _ _
        refine cA ((run_machine_move_1_ok N (⟨(3:Int),a2.a⟩:V) a0.frames a1 r90 hr91).swl [(1016,4),(1019,1003),(1021,1005),(21,516)] rfl) ?_
        refine A6 _ _ ?_
        refine EOk.gh (Gh.reidD 1001 1 1002 517 518 rfl rfl rfl rfl rfl rfl rfl rfl rfl rfl rfl rfl) (fun _=>?_)
        exact jn ⟨_,sj h87⟩ [(186,517),(527,518)]
       refine gos hn ?_
       obtain ⟨o101,h100,h87⟩:=bindM h87
       refine jk (ι:={ s // o101=Ctl.next s }) hn (fun s=>[]) (fun s=>[(186,.deep 2 97 [(1,(2,27))] (List.map eOb s.1.1) [] 529),(519,.gone),(529,.gone),(1000,.box [.ptr 1001 0,.fn Kl [.fp cl_0],.fn Kq [],.int s.1.2.1,.int s.1.2.2.1,.int s.1.2.2.2.1,.own 1003,.int s.1.2.2.2.2.2.1,.int s.1.2.2.2.2.2.2.1,.int s.1.2.2.2.2.2.2.2] 123),(1001,.box [.sl 4 (List.map eCl a0.w.classes),.own 186,.int a0.w.epoch] 25),(1002,.gone),(1003,.deep 10 160 [(7,(2,27)),(8,(2,27))] (List.map eTFrame s.1.2.2.2.2.1) [] 519)]) [(0,_),(1,_)] [] (fun _ A7 _ R7=>?_) ?_
       ·refine goc hn ?_
        refine bselM h100 (fun hb102 h100=>?_) (fun hb102 h100=>?_)
        ·refine gor hn ?_
         obtain ⟨r103,hr104,h100⟩:=bindM h100
         show CallOk Try.prog _ _ _ _
         refine cA ((run_machine_move_1_ok N (⟨(0:Int),(0:Int)⟩:V) a0.frames a1 r103 hr104).swl [(1016,4),(1019,1003),(1021,1005),(21,519)] rfl) ?_
         refine A7 _ _ ?_
         refine EOk.gh (Gh.reidD 1001 1 1002 520 521 rfl rfl rfl rfl rfl rfl rfl rfl rfl rfl rfl rfl) (fun _=>?_)
         exact jn ⟨_,sj h100⟩ [(186,520),(529,521)]
        refine COk.seqQ fun _ A8 _ _=>?_
        refine gos hn ?_
        obtain ⟨o107,h106,h100⟩:=bindM h100
        refine jk (ι:={ s // o107=s }) hn (fun s=>[(75,.bool s.1)]) (fun s=>[]) [(0,_),(1,_),(4,_),(5,_),(6,_),(12,_)] [(4,_),(5,_),(1000,_),(1001,_),(1002,_),(1003,_)] (fun _ A9 _ _=>?_) ?_
        ·refine goc hn ?_
         refine bselM h106 (fun hb108 h106=>?_) (fun hb108 h106=>?_)
         ·refine gok hn ?_
          refine A9 _ _ ?_
          exact jn ⟨_,sj h106⟩ []
         refine gor hn ?_
         refine A9 _ _ ?_
         exact jn ⟨_,sj h106⟩ []
        rintro ⟨v105,hv_⟩
        replace hv_:=hv_.symm
        subst hv_
        refine A8 _ _ ?_
        obtain ⟨o118,h117,h100⟩:=bindM h100
        refine jk (ι:={ s // o118=Ctl.next s }) hn (fun s=>[]) (fun s=>[(186,.deep 2 97 [(1,(2,27))] (List.map eOb s.1.1) [] 531),(522,.gone),(531,.gone),(1000,.box [.ptr 1001 0,.fn Kl [.fp cl_0],.fn Kq [],.int s.1.2.1,.int s.1.2.2.1,.int s.1.2.2.2.1,.own 1003,.int s.1.2.2.2.2.2.1,.int s.1.2.2.2.2.2.2.1,.int s.1.2.2.2.2.2.2.2] 123),(1001,.box [.sl 4 (List.map eCl a0.w.classes),.own 186,.int a0.w.epoch] 25),(1002,.gone),(1003,.deep 10 160 [(7,(2,27)),(8,(2,27))] (List.map eTFrame s.1.2.2.2.2.1) [] 522)]) [(0,_),(1,_)] [] (fun _ A10 _ R10=>?_) ?_
        ·refine goc hn ?_
         refine bselM h117 (fun hb119 h117=>?_) (fun hb119 h117=>?_)
         ·refine gor hn ?_
          obtain ⟨r120,hr121,h117⟩:=bindM h117
          show CallOk Try.prog _ _ _ _
          refine cA (value_Bool_ok N (decide (a2.op=(8:Int))) r120 hr121) ?_
          obtain ⟨r122,hr123,h117⟩:=bindM h117
          show CallOk Try.prog _ _ _ _
          refine cA ((run_machine_move_1_ok N r120 a0.frames a1 r122 hr123).swl [(1016,4),(1019,1003),(1021,1005),(21,522)] rfl) ?_
          refine A10 _ _ ?_
          refine EOk.gh (Gh.reidD 1001 1 1002 523 524 rfl rfl rfl rfl rfl rfl rfl rfl rfl rfl rfl rfl) (fun _=>?_)
          exact jn ⟨_,sj h117⟩ [(186,523),(531,524)]
         refine gos hn ?_
         obtain ⟨o133,h132,h117⟩:=bindM h117
         refine jk (ι:={ s // o133=Ctl.next s }) hn (fun s=>[]) (fun s=>[(186,.deep 2 97 [(1,(2,27))] (List.map eOb s.1.1) [] 533),(525,.gone),(533,.gone),(1000,.box [.ptr 1001 0,.fn Kl [.fp cl_0],.fn Kq [],.int s.1.2.1,.int s.1.2.2.1,.int s.1.2.2.2.1,.own 1003,.int s.1.2.2.2.2.2.1,.int s.1.2.2.2.2.2.2.1,.int s.1.2.2.2.2.2.2.2] 123),(1001,.box [.sl 4 (List.map eCl a0.w.classes),.own 186,.int a0.w.epoch] 25),(1002,.gone),(1003,.deep 10 160 [(7,(2,27)),(8,(2,27))] (List.map eTFrame s.1.2.2.2.2.1) [] 525)]) [(0,_),(1,_)] [] (fun _ A11 _ R11=>?_) ?_
         ·refine goc hn ?_
          refine bselM h132 (fun hb134 h132=>?_) (fun hb134 h132=>?_)
          ·refine gor hn ?_
           obtain ⟨r135,hr136,h132⟩:=bindM h132
           show CallOk Try.prog _ _ _ _
           refine cA ((run_frame_pop_ok N a0.frames a1 r135 hr136).sw 5 525) ?_
           refine A11 _ _ ?_
           refine EOk.gh (Gh.reidD 1001 1 1002 526 527 rfl rfl rfl rfl rfl rfl rfl rfl rfl rfl rfl rfl) (fun _=>?_)
           exact jn ⟨_,sj h132⟩ [(186,526),(533,527)]
          refine gos hn ?_
          obtain ⟨o146,h145,h132⟩:=bindM h132
          refine jk (ι:={ s // o146=Ctl.next s }) hn (fun s=>[]) (fun s=>[(186,.deep 2 97 [(1,(2,27))] (List.map eOb s.1.1) [] 535),(528,.gone),(535,.gone),(1000,.box [.ptr 1001 0,.fn Kl [.fp cl_0],.fn Kq [],.int s.1.2.1,.int s.1.2.2.1,.int s.1.2.2.2.1,.own 1003,.int s.1.2.2.2.2.2.1,.int s.1.2.2.2.2.2.2.1,.int s.1.2.2.2.2.2.2.2] 123),(1001,.box [.sl 4 (List.map eCl a0.w.classes),.own 186,.int a0.w.epoch] 25),(1002,.gone),(1003,.deep 10 160 [(7,(2,27)),(8,(2,27))] (List.map eTFrame s.1.2.2.2.2.1) [] 528)]) [(0,_),(1,_)] [] (fun _ A12 _ R12=>?_) ?_
          ·refine goc hn ?_
           refine bselM h145 (fun hb147 h145=>?_) (fun hb147 h145=>?_)
           ·obtain ⟨x148,hx149,h145⟩:=bindM h145
            refine COk.gh (Gh.detach 1003 528 529 a1 8 rfl rfl (atD hx149) rfl rfl rfl rfl rfl rfl rfl rfl) (fun _=>?_)
            refine kp [(0,_),(1,_),(4,_),(6,_)] [(4,_),(528,_),(529,_),(1000,_),(1001,_),(1002,_),(1003,_)] ?_
            refine god hn (by kernel_rfl) ?_
            refine holeD hx149 rfl rfl (by decide) rfl ?_
            refine holeD hx149 rfl rfl (by decide) rfl ?_
            refine lenM (fun _=>?_)
            refine Or.inr ?_
            obtain ⟨x151,hx152,h145⟩:=bindM h145
            refine ownM hx152 ?_
            refine ldM (nthO_some hx152).2 ?_
            obtain ⟨r153,hr154,h145⟩:=bindM h145
            show CallOk Try.prog _ _ _ _
            refine cA ((run_machine_move_1_S_ok N x151 x148.stack a0.frames a1 r153 hr154).swl [(1022,528),(1016,4),(1019,1003),(1021,529),(22,530)] rfl) ?_
            refine A12 _ _ ?_
            refine EOk.gh (Gh.attach (l':=List.map eTFrame (a0.frames.set a1 (⟨x148.class_,x148.method,x148.fast,x148.code,x148.self_,x148.args,x148.temps,r153,x148.at_⟩:TFrame))) 1003 530 531 a1 8 rfl rfl rfl (atD hx149) rfl rfl (setD rfl) rfl rfl rfl rfl rfl rfl) (fun _=>?_)
            refine EOk.gh (Gh.reidD 1001 1 1002 532 533 rfl rfl rfl rfl rfl rfl rfl rfl rfl rfl rfl rfl) (fun _=>?_)
            exact jn ⟨_,sj h145⟩ [(186,532),(535,533),(528,531)]
           refine gos hn ?_
           obtain ⟨o164,h163,h145⟩:=bindM h145
           refine jk (ι:={ s // o164=Ctl.next s }) hn (fun s=>[]) (fun s=>[(186,.deep 2 97 [(1,(2,27))] (List.map eOb s.1.1) [] 538),(534,.gone),(538,.gone),(1000,.box [.ptr 1001 0,.fn Kl [.fp cl_0],.fn Kq [],.int s.1.2.1,.int s.1.2.2.1,.int s.1.2.2.2.1,.own 1003,.int s.1.2.2.2.2.2.1,.int s.1.2.2.2.2.2.2.1,.int s.1.2.2.2.2.2.2.2] 123),(1001,.box [.sl 4 (List.map eCl a0.w.classes),.own 186,.int a0.w.epoch] 25),(1002,.gone),(1003,.deep 10 160 [(7,(2,27)),(8,(2,27))] (List.map eTFrame s.1.2.2.2.2.1) [] 534)]) [(0,_),(1,_)] [] (fun _ A13 _ R13=>?_) ?_
           ·refine goc hn ?_
            refine bselM h163 (fun hb165 h163=>?_) (fun hb165 h163=>?_)
            ·obtain ⟨x166,hx167,h163⟩:=bindM h163
             refine COk.gh (Gh.detach 1003 534 535 a1 7 rfl rfl (atD hx167) rfl rfl rfl rfl rfl rfl rfl rfl) (fun _=>?_)
             refine kp [(0,_),(1,_),(4,_),(5,_)] [(4,_),(5,_),(534,_),(535,_),(1000,_),(1001,_),(1002,_),(1003,_)] ?_
             refine god2 3 7 hn (by kernel_rfl) ?_
             refine holeD hx167 rfl rfl (by decide) rfl ?_
             obtain ⟨r168,hr169,h163⟩:=bindM h163
             show CallOk Try.prog _ _ _ _
             refine cA ((((run_frame_pop_T_ok N a0.frames a1 r168 hr169).sw 1005 535).sw 1006 534).sw 5 536) ?_
             obtain ⟨x170,hx171,h163⟩:=bindM h163
             refine And.intro ⟨rfl,⟨rfl,trivial⟩,holeD hx171 rfl rfl (by decide) rfl ⟨rfl,rfl,rfl,rfl⟩⟩ ?_
             obtain ⟨x172,hx173,h163⟩:=bindM h163
             refine ownM hx173 ?_
             refine ldM (nthO_some hx173).2 ?_
             refine Exists.intro (List.map eV (x166.temps.set a2.a.toNat r168.1)) (And.intro (leLs_set (nthO_some hx173).2 (by repeat (first|exact trivial|exact rfl|(refine And.intro ?_ ?_)))) ?_)
             refine A13 _ _ ?_
             refine EOk.gh (Gh.attach (l':=List.map eTFrame (r168.2.set a1 (⟨x170.class_,x170.method,x170.fast,x170.code,x170.self_,x170.args,(x166.temps.set a2.a.toNat r168.1),x170.stack,x170.at_⟩:TFrame))) 1003 534 537 a1 7 rfl rfl rfl (atD hx171) rfl rfl (setD rfl) rfl rfl rfl rfl rfl rfl) (fun _=>?_)
             refine EOk.gh (Gh.reidD 1001 1 1002 538 539 rfl rfl rfl rfl rfl rfl rfl rfl rfl rfl rfl rfl) (fun _=>?_)
             exact jn ⟨_,sj h163⟩ [(186,538),(538,539),(534,537)]
            refine gos hn ?_
            obtain ⟨o183,h182,h163⟩:=bindM h163
            refine jk (ι:={ s // o183=Ctl.next s }) hn (fun s=>[]) (fun s=>[(186,.deep 2 97 [(1,(2,27))] (List.map eOb s.1.1) [] 541),(540,.gone),(541,.gone),(1000,.box [.ptr 1001 0,.fn Kl [.fp cl_0],.fn Kq [],.int s.1.2.1,.int s.1.2.2.1,.int s.1.2.2.2.1,.own 1003,.int s.1.2.2.2.2.2.1,.int s.1.2.2.2.2.2.2.1,.int s.1.2.2.2.2.2.2.2] 123),(1001,.box [.sl 4 (List.map eCl a0.w.classes),.own 186,.int a0.w.epoch] 25),(1002,.gone),(1003,.deep 10 160 [(7,(2,27)),(8,(2,27))] (List.map eTFrame s.1.2.2.2.2.1) [] 540)]) [(0,_),(1,_)] [] (fun _ A14 _ R14=>?_) ?_
            ·refine goc hn ?_
             refine bselM h182 (fun hb184 h182=>?_) (fun hb184 h182=>?_)
             ·refine god2 4 8 hn (by kernel_rfl) ?_
              obtain ⟨x185,hx186,h182⟩:=bindM h182
              refine ldM hx186 ?_
              obtain ⟨r187,hr188,h182⟩:=bindM h182
              show CallOk Try.prog _ _ _ _
              refine cA ((run_frame_pop_ok N a0.frames a1 r187 hr188).sw 5 540) ?_
              obtain ⟨x189,hx190,h182⟩:=bindM h182
              refine And.intro ⟨rfl,⟨rfl,trivial⟩,ldM hx190 ⟨congrArg (fun v=>AV.agg (eV v)) (run_frame_pop_self hr188 hx186 hx190),rfl,rfl,rfl⟩⟩ ?_
              obtain ⟨r191,hr192,h182⟩:=bindM h182
              show CallOk Try.prog _ _ _ _
              refine cA ((run_machine_put_c1_0_ok N (⟨(⟨a0.w.classes,a0.w.heap,a0.w.epoch⟩:Wd),a0.fuel,a0.sends,a0.turns,r187.2,a0.back,a0.err⟩:TMachine) gl gq x185.self_ a2.a r187.1 hgl hgq r191 hr192).sw 3 541) ?_
              refine A14 _ _ ?_
              refine EOk.gh (Gh.reidD 1001 1 1002 542 543 rfl rfl rfl rfl rfl rfl rfl rfl rfl rfl rfl rfl) (fun _=>?_)
              exact jn ⟨_,sj h182⟩ [(186,542),(541,543)]
             refine gos hn ?_
             obtain ⟨o202,h201,h182⟩:=bindM h182
             refine jk (ι:={ s // o202=Ctl.next s }) hn (fun s=>[]) (fun s=>[(186,.deep 2 97 [(1,(2,27))] (List.map eOb s.1.1) [] 550),(544,.gone),(550,.gone),(1000,.box [.ptr 1001 0,.fn Kl [.fp cl_0],.fn Kq [],.int s.1.2.1,.int s.1.2.2.1,.int s.1.2.2.2.1,.own 1003,.int s.1.2.2.2.2.2.1,.int s.1.2.2.2.2.2.2.1,.int s.1.2.2.2.2.2.2.2] 123),(1001,.box [.sl 4 (List.map eCl a0.w.classes),.own 186,.int a0.w.epoch] 25),(1002,.gone),(1003,.deep 10 160 [(7,(2,27)),(8,(2,27))] (List.map eTFrame s.1.2.2.2.2.1) [] 544)]) [(0,_),(1,_)] [] (fun _ A15 _ R15=>?_) ?_
             ·refine goc hn ?_
              refine bselM h201 (fun hb203 h201=>?_) (fun hb203 h201=>?_)
              ·obtain ⟨x204,hx205,h201⟩:=bindM h201
               refine COk.gh (Gh.detach 1003 544 545 a1 7 rfl rfl (atD hx205) rfl rfl rfl rfl rfl rfl rfl rfl) (fun _=>?_)
               refine kp [(0,_),(1,_),(4,_),(5,_),(6,_)] [(4,_),(5,_),(544,_),(545,_),(1000,_),(1001,_),(1002,_),(1003,_)] ?_
               refine god hn (by kernel_rfl) ?_
               refine holeD hx205 rfl rfl (by decide) rfl ?_
               obtain ⟨x206,hx207,h201⟩:=bindM h201
               refine ownM hx207 ?_
               refine ldM (nthO_some hx207).2 ?_
               obtain ⟨r208,hr209,h201⟩:=bindM h201
               show CallOk Try.prog _ _ _ _
               refine cD (value_Slot_ok N a0.w.heap x206 a2.b r208 hr209) ?_
               obtain ⟨r210,hr211,h201⟩:=bindM h201
               show CallOk Try.prog _ _ _ _
               refine cA ((run_machine_move_1_T_ok N r208 a0.frames a1 r210 hr211).swl [(1022,544),(1016,4),(1019,1003),(1021,545),(21,546)] rfl) ?_
               obtain ⟨x212,hx213,h201⟩:=bindM h201
               refine A15 _ _ ?_
               refine EOk.gh (Gh.attach (l':=List.map eTFrame (r210.set a1 (⟨x212.class_,x212.method,x212.fast,x212.code,x212.self_,x212.args,x204.temps,x212.stack,x212.at_⟩:TFrame))) 1003 544 547 a1 7 rfl rfl rfl (atD hx213) rfl rfl (setD rfl) rfl rfl rfl rfl rfl rfl) (fun _=>?_)
               refine EOk.gh (Gh.reidD 1001 1 1002 548 549 rfl rfl rfl rfl rfl rfl rfl rfl rfl rfl rfl rfl) (fun _=>?_)
               exact jn ⟨_,sj h201⟩ [(186,548),(550,549),(544,547)]
              refine kp [(0,_),(1,_),(4,_),(5,_),(6,_),(12,_)] [(4,_),(5,_),(1000,_),(1001,_),(1002,_),(1003,_)] ?_
              refine gos hn ?_
              obtain ⟨o223,h222,h201⟩:=bindM h201
              refine jk (ι:={ s // o223=Ctl.next s }) hn (fun s=>[]) (fun s=>[(186,.deep 2 97 [(1,(2,27))] (List.map eOb s.1.1) [] 553),(550,.gone),(553,.gone),(1000,.box [.ptr 1001 0,.fn Kl [.fp cl_0],.fn Kq [],.int s.1.2.1,.int s.1.2.2.1,.int s.1.2.2.2.1,.own 1003,.int s.1.2.2.2.2.2.1,.int s.1.2.2.2.2.2.2.1,.int s.1.2.2.2.2.2.2.2] 123),(1001,.box [.sl 4 (List.map eCl a0.w.classes),.own 186,.int a0.w.epoch] 25),(1002,.gone),(1003,.deep 10 160 [(7,(2,27)),(8,(2,27))] (List.map eTFrame s.1.2.2.2.2.1) [] 550)]) [(0,_),(1,_)] [] (fun _ A16 _ R16=>?_) ?_
              ·refine goc hn ?_
               refine bselM h222 (fun hb224 h222=>?_) (fun hb224 h222=>?_)
               ·obtain ⟨x225,hx226,h222⟩:=bindM h222
                refine COk.gh (Gh.detach 1003 550 551 a1 7 rfl rfl (atD hx226) rfl rfl rfl rfl rfl rfl rfl rfl) (fun _=>?_)
                refine kp [(0,_),(1,_),(4,_),(5,_)] [(4,_),(5,_),(550,_),(551,_),(1000,_),(1001,_),(1002,_),(1003,_)] ?_
                refine god2 4 12 hn (by kernel_rfl) ?_
                refine holeD hx226 rfl rfl (by decide) rfl ?_
                obtain ⟨x227,hx228,h222⟩:=bindM h222
                refine ownM hx228 ?_
                refine ldM (nthO_some hx228).2 ?_
                obtain ⟨r229,hr230,h222⟩:=bindM h222
                show CallOk Try.prog _ _ _ _
                refine cA ((((run_frame_pop_T_ok N a0.frames a1 r229 hr230).sw 1005 551).sw 1006 550).sw 5 552) ?_
                obtain ⟨x231,hx232,h222⟩:=bindM h222
                refine And.intro ⟨rfl,⟨rfl,trivial⟩,holeD hx232 rfl rfl (by decide) rfl ⟨rfl,rfl,rfl,rfl⟩⟩ ?_
                obtain ⟨r233,hr234,h222⟩:=bindM h222
                show CallOk Try.prog _ _ _ _
                refine cA ((run_machine_put_c1_0_ok N (⟨(⟨a0.w.classes,a0.w.heap,a0.w.epoch⟩:Wd),a0.fuel,a0.sends,a0.turns,r229.2,a0.back,a0.err⟩:TMachine) gl gq x227 a2.b r229.1 hgl hgq r233 hr234).sw 3 553) ?_
                refine A16 _ _ ?_
                refine EOk.gh (Gh.attach (l':=List.map eTFrame (r229.2.set a1 (⟨x231.class_,x231.method,x231.fast,x231.code,x231.self_,x231.args,x225.temps,x231.stack,x231.at_⟩:TFrame))) 1003 550 554 a1 7 rfl rfl rfl (atD hx232) rfl rfl (setD rfl) rfl rfl rfl rfl rfl rfl) (fun _=>?_)
                refine EOk.gh (Gh.reidD 1001 1 1002 555 556 rfl rfl rfl rfl rfl rfl rfl rfl rfl rfl rfl rfl) (fun _=>?_)
                exact jn ⟨_,sj h222⟩ [(186,555),(553,556),(550,554)]
               refine gos hn ?_
               obtain ⟨o238,h237,h222⟩:=bindM h222
               refine jk (ι:={ s // o238=Ctl.next s }) hn (fun s=>[]) (fun s=>[(186,.deep 2 97 [(1,(2,27))] (List.map eOb s.1.1) [] 886),(560,.gone),(886,.gone),(1001,.box [.sl 4 (List.map eCl a0.w.classes),.own 186,.int a0.w.epoch] 25),(1002,.gone),(1003,.deep 10 160 [(7,(2,27)),(8,(2,27))] (List.map eTFrame s.1.2) [] 560)]) [(0,_),(1,_)] [(1000,_)] (fun _ A17 _ R17=>?_) ?_
               ·refine goc hn ?_
                refine bselM h237 (fun hb239 h237=>?_) (fun hb239 h237=>?_)
                ·refine COk.seqQ fun _ A18 _ _=>?_
                 refine kp [(0,_),(1,_),(5,_),(6,_)] [(4,_),(5,_),(1000,_),(1001,_),(1002,_),(1003,_)] ?_
                 refine god hn (by kernel_rfl) ?_
                 obtain ⟨r240,hr241,h237⟩:=bindM h237
                 show CallOk Try.prog _ _ _ _
                 refine cD (class_Slots_ok N (⟨a0.w.classes,a0.w.heap,a0.w.epoch⟩:Wd) a2.a r240 hr241) ?_
                 obtain ⟨r242,hr243,h237⟩:=bindM h237
                 show CallOk Try.prog _ _ _ _
                 refine cDf (((value_New_ok N a0.w.heap a2.a r240 r242 hr243).sw 0 186).sw 1 886) ⟨flatOb _,trivial,trivial⟩ ?_
                 refine A18 _ _ ?_
                 refine COk.seqQ fun _ A19 _ R19=>?_
                 refine kp [(0,_),(1,_),(6,_),(7,_),(8,_),(9,_)] [(4,_),(8,_),(186,_),(886,_),(1000,_),(1001,_),(1002,_),(1003,_)] ?_
                 refine gos hn ?_
                 refine goc hn ?_
                 refine bselM h237 (fun hb244 h237=>?_) (fun hb244 h237=>?_)
                 ·refine gos hn ?_
                  obtain ⟨r245,hr246,h237⟩:=bindM h237
                  show CallOk Try.prog _ _ _ _
                  refine cA (run_machine_fail_c1_0_ok N (⟨(⟨a0.w.classes,a0.w.heap,a0.w.epoch⟩:Wd),a0.fuel,a0.sends,a0.turns,a0.frames,a0.back,a0.err⟩:TMachine) gl gq r242.2.2 hgl hgq r245 hr246) ?_
                  refine COk.gh (Gh.reidD 1001 1 1002 557 558 rfl rfl rfl rfl rfl rfl rfl rfl rfl rfl rfl rfl) (fun _=>?_)
                  refine COk.gh (Gh.resh 1003 559 rfl rfl rfl rfl) (fun _=>?_)
                  refine got hn ?_
                  refine R19 _ _ ?_
                  refine R17 _ _ ?_
                  refine R16 _ _ ?_
                  refine R15 _ _ ?_
                  refine R14 _ _ ?_
                  refine R13 _ _ ?_
                  refine R12 _ _ ?_
                  refine R11 _ _ ?_
                  refine R10 _ _ ?_
                  refine R7 _ _ ?_
                  refine R6 _ _ ?_
                  refine R5 _ _ ?_
                  refine R4 _ _ ?_
                  refine R3 _ _ ?_
                  refine R2 _ _ ?_
                  refine R1 _ _ ?_
                  refine R0 _ _ ?_
                  obtain rfl:=Option.some.inj h237
                  obtain rfl:=Option.some.inj h222
                  obtain rfl:=Option.some.inj h201
                  obtain rfl:=Option.some.inj h182
                  obtain rfl:=Option.some.inj h163
                  obtain rfl:=Option.some.inj h145
                  obtain rfl:=Option.some.inj h132
                  obtain rfl:=Option.some.inj h117
                  obtain rfl:=Option.some.inj h100
                  obtain rfl:=Option.some.inj h87
                  obtain rfl:=Option.some.inj h70
                  obtain rfl:=Option.some.inj h51
                  obtain rfl:=Option.some.inj h34
                  obtain rfl:=Option.some.inj h19
                  obtain rfl:=Option.some.inj h9
                  obtain rfl:=Option.some.inj h
                  exact ⟨[(2,557),(3,558),(5,559)],_,fm⟩
                 refine gok hn ?_
                 refine A19 _ _ ?_
                 refine gos hn ?_
                 refine gor hn ?_
                 obtain ⟨r247,hr248,h237⟩:=bindM h237
                 show CallOk Try.prog _ _ _ _
                 refine cA ((run_machine_move_1_ok N r242.2.1 a0.frames a1 r247 hr248).swl [(1016,4),(1019,1003),(1021,1005),(21,560)] rfl) ?_
                 refine A17 _ _ ?_
                 refine EOk.gh (Gh.drop 1002 rfl) (fun _=>?_)
                 exact jn ⟨_,sj h237⟩ []
                refine gok hn ?_
                refine A17 _ _ ?_
                refine EOk.gh (Gh.reidD 1001 1 1002 561 562 rfl rfl rfl rfl rfl rfl rfl rfl rfl rfl rfl rfl) (fun _=>?_)
                refine EOk.gh (Gh.resh 1003 563 rfl rfl rfl rfl) (fun _=>?_)
                exact jn ⟨_,sj h237⟩ [(186,561),(886,562),(560,563)]
               rintro ⟨⟨v235,v236⟩,rfl⟩
               refine A16 _ _ ?_
               exact jn ⟨_,sj h222⟩ [(553,886),(550,560)]
              rintro ⟨⟨v214,v215,v216,v217,v218,v219,v220,v221⟩,rfl⟩
              refine A15 _ _ ?_
              exact jn ⟨_,sj h201⟩ [(550,553),(544,550)]
             rintro ⟨⟨v193,v194,v195,v196,v197,v198,v199,v200⟩,rfl⟩
             refine A14 _ _ ?_
             exact jn ⟨_,sj h182⟩ [(541,550),(540,544)]
            rintro ⟨⟨v174,v175,v176,v177,v178,v179,v180,v181⟩,rfl⟩
            refine A13 _ _ ?_
            exact jn ⟨_,sj h163⟩ [(538,541),(534,540)]
           rintro ⟨⟨v155,v156,v157,v158,v159,v160,v161,v162⟩,rfl⟩
           refine A12 _ _ ?_
           exact jn ⟨_,sj h145⟩ [(535,538),(528,534)]
          rintro ⟨⟨v137,v138,v139,v140,v141,v142,v143,v144⟩,rfl⟩
          refine A11 _ _ ?_
          exact jn ⟨_,sj h132⟩ [(533,535),(525,528)]
         rintro ⟨⟨v124,v125,v126,v127,v128,v129,v130,v131⟩,rfl⟩
         refine A10 _ _ ?_
         exact jn ⟨_,sj h117⟩ [(531,533),(522,525)]
        rintro ⟨⟨v109,v110,v111,v112,v113,v114,v115,v116⟩,rfl⟩
        refine A7 _ _ ?_
        exact jn ⟨_,sj h100⟩ [(529,531),(519,522)]
       rintro ⟨⟨v92,v93,v94,v95,v96,v97,v98,v99⟩,rfl⟩
       refine A6 _ _ ?_
       exact jn ⟨_,sj h87⟩ [(527,529),(516,519)]
      rintro ⟨⟨v79,v80,v81,v82,v83,v84,v85,v86⟩,rfl⟩
      refine A5 _ _ ?_
      exact jn ⟨_,sj h70⟩ [(525,527),(513,516)]
     rintro ⟨⟨v62,v63,v64,v65,v66,v67,v68,v69⟩,rfl⟩
     refine A4 _ _ ?_
     exact jn ⟨_,sj h51⟩ [(522,525),(507,513)]
    rintro ⟨⟨v43,v44,v45,v46,v47,v48,v49,v50⟩,rfl⟩
    refine A3 _ _ ?_
    exact jn ⟨_,sj h34⟩ [(520,522),(504,507)]
   rintro ⟨⟨v26,v27,v28,v29,v30,v31,v32,v33⟩,rfl⟩
   refine A2 _ _ ?_
   exact jn ⟨_,sj h19⟩ [(518,520),(501,504)]
  rintro ⟨⟨v11,v12,v13,v14,v15,v16,v17,v18⟩,rfl⟩
  refine A1 _ _ ?_
  refine A0 _ _ ?_
  exact jn ⟨_,sj h9⟩ []
 rintro ⟨⟨v1,v2,v3,v4,v5,v6,v7,v8⟩,rfl⟩
 refine EOk.done ?_
 obtain rfl:=Option.some.inj h
 exact ⟨[(2,186),(3,518),(5,501)],_,fm⟩

/- (*run.machine).step -/
set_option maxRecDepth 100000 in
set_option maxHeartbeats 8000000 in
theorem run_machine_step_c1_0_ok (N:Nat) (a0:TMachine) (gl:St→Int→ByteArray→Option (Int×Int)) (gq:Int→Int→Option (Fs×Bool)) {Kl:Nat} {cl_0:List AV} (hgl:∀x0_ x1_ x2_ y_,gl x0_ x1_ x2_=some y_→Spec Try.prog Kl [] [.agg (eSt x0_),.int x1_,.str x2_,.fp cl_0] (.tup [.int y_.1,.int y_.2]) [] []) {Kq:Nat} (hgq:∀x0_ x1_ y_,gq x0_ x1_=some y_→Spec Try.prog Kq [] [.int x0_,.int x1_] (.tup [.agg (eFs y_.1),.bool y_.2]) [] []) (r:TMachine) (h:run_machine_step N a0 gl gq=some r):Spec Try.prog 62 [(1000,.box [.ptr 1001 0,.fn Kl [.fp cl_0],.fn Kq [],.int a0.fuel,.int a0.sends,.int a0.turns,.own 1003,.int a0.back.k,.int a0.back.n,.int a0.err] 123),(1001,.box [.sl 4 (List.map eCl a0.w.classes),.own 1002,.int a0.w.epoch] 25),(1002,.deep 2 97 [(1,(2,27))] (List.map eOb a0.w.heap) [] 1004),(1003,.deep 10 160 [(7,(2,27)),(8,(2,27))] (List.map eTFrame a0.frames) [] 1005)] [.ptr 1000 0] (.tup []) [(1000,.box [.ptr 1001 0,.fn Kl [.fp cl_0],.fn Kq [],.int r.fuel,.int r.sends,.int r.turns,.own 4,.int r.back.k,.int r.back.n,.int r.err] 123),(1001,.box [.sl 4 (List.map eCl r.w.classes),.own 2,.int r.w.epoch] 25),(2,.deep 2 97 [(1,(2,27))] (List.map eOb r.w.heap) [] 3),(3,.gone),(1002,.gone),(4,.deep 10 160 [(7,(2,27)),(8,(2,27))] (List.map eTFrame r.frames) [] 5),(5,.gone),(1003,.gone)] [3,2,5,4]:=by
 refine Spec.of tabOk Try.func62 rfl Try.ntmps62 (by kernel_rfl) rfl rfl rfl fun Γ hn=>?_
 unfold run_machine_step at h
 refine COk.snoc ?_
 refine COk.seqQ fun _ A0 _ _=>?_
 refine god hn (by kernel_rfl) ?_
 refine lenM (fun _=>?_)
 refine Or.inr ?_
 obtain ⟨x2,hx3,h⟩:=bindM h
 refine ixD hx3 rfl rfl ?_
 refine A0 _ _ ?_
 refine gos hn ?_
 refine ldM (nthO_some hx3).2 ?_
 refine kp [(0,_),(2,_),(3,_)] [(1000,_),(1001,_),(1002,_),(1003,_)] ?_
 refine gos hn ?_
 refine ldM (nthO_some hx3).2 ?_
 obtain ⟨x4,hx5,h⟩:=bindM h
 refine idxM hx5 ?_
 refine gos hn ?_
 refine ldM (nthO_some hx3).2 ?_
 refine Or.inr ?_
 refine stD (nthO_some hx3).2 rfl rfl rfl ?_
 refine Exists.intro (List.map eTFrame (a0.frames.set ((wr ((a0.frames.length:Int) - (1:Int))).toNat) (⟨x2.class_,x2.method,x2.fast,x2.code,x2.self_,x2.args,x2.temps,x2.stack,(wr (x2.at_+(1:Int)))⟩:TFrame))) (And.intro (setD rfl) ?_)
 refine kp [(0,_),(2,_),(3,_),(4,_)] [(4,_),(1000,_),(1001,_),(1002,_),(1003,_)] ?_
 refine gos hn ?_
 obtain ⟨o17,h16,h⟩:=bindM h
 refine jk (ι:={ s // o17=s }) hn (fun s=>[]) (fun s=>[(501,.gone),(502,.deep 10 160 [(7,(2,27)),(8,(2,27))] (List.map eTFrame s.1.2.2.2.2.2.2.1) [] 501),(509,.gone),(510,.deep 2 97 [(1,(2,27))] (List.map eOb s.1.2.1) [] 509),(1000,.box [.ptr 1001 0,.fn Kl [.fp cl_0],.fn Kq [],.int s.1.2.2.2.1,.int s.1.2.2.2.2.1,.int s.1.2.2.2.2.2.1,.own 502,.int s.1.2.2.2.2.2.2.2.1,.int s.1.2.2.2.2.2.2.2.2.1,.int s.1.2.2.2.2.2.2.2.2.2] 123),(1001,.box [.sl 4 (List.map eCl s.1.1),.own 510,.int s.1.2.2.1] 25),(1002,.gone),(1003,.gone)]) [(0,_)] [] (fun _ A1 _ _=>?_) ?_
 ·refine COk.blkQ fun _ A2 _ _ _=>?_
  refine gos hn ?_
  obtain ⟨o29,h28,h16⟩:=bindM h16
  refine jk (ι:={ s // o29=s }) hn (fun s=>[]) (fun s=>[(501,.gone),(502,.deep 10 160 [(7,(2,27)),(8,(2,27))] (List.map eTFrame s.1.2.2.2.2.2.2.1) [] 501),(509,.gone),(510,.deep 2 97 [(1,(2,27))] (List.map eOb s.1.2.1) [] 509),(1000,.box [.ptr 1001 0,.fn Kl [.fp cl_0],.fn Kq [],.int s.1.2.2.2.1,.int s.1.2.2.2.2.1,.int s.1.2.2.2.2.2.1,.own 502,.int s.1.2.2.2.2.2.2.2.1,.int s.1.2.2.2.2.2.2.2.2.1,.int s.1.2.2.2.2.2.2.2.2.2] 123),(1001,.box [.sl 4 (List.map eCl s.1.1),.own 510,.int s.1.2.2.1] 25),(1002,.gone),(1003,.gone)]) [(0,_)] [] (fun _ A3 _ _=>?_) ?_
  ·refine goc hn ?_
   refine bselM h28 (fun hb30 h28=>?_) (fun hb30 h28=>?_)
   ·refine gor hn ?_
    obtain ⟨r31,hr32,h28⟩:=bindM h28
    show CallOk Try.prog _ _ _ _
    refine cA (((run_machine_send_c1_0_ok N (⟨(⟨a0.w.classes,a0.w.heap,a0.w.epoch⟩:Wd),a0.fuel,a0.sends,a0.turns,(a0.frames.set ((wr ((a0.frames.length:Int) - (1:Int))).toNat) (⟨x2.class_,x2.method,x2.fast,x2.code,x2.self_,x2.args,x2.temps,x2.stack,(wr (x2.at_+(1:Int)))⟩:TFrame)),a0.back,a0.err⟩:TMachine) gl gq ((wr ((a0.frames.length:Int) - (1:Int))).toNat) x4 x2.at_ hgl hgq r31 hr32).sw 5 501).sw 4 502) ?_
    refine A3 _ _ ?_
    refine EOk.gh (Gh.reidD 1001 1 1002 503 504 rfl rfl rfl rfl rfl rfl rfl rfl rfl rfl rfl rfl) (fun _=>?_)
    exact jn ⟨_,sj h28⟩ [(510,503),(509,504)]
   refine gos hn ?_
   obtain ⟨o44,h43,h28⟩:=bindM h28
   refine jk (ι:={ s // o44=s }) hn (fun s=>[]) (fun s=>[(88,.deep 10 160 [(7,(2,27)),(8,(2,27))] (List.map eTFrame s.1.2.2.2.2.2.2.1) [] 505),(505,.gone),(511,.gone),(512,.deep 2 97 [(1,(2,27))] (List.map eOb s.1.2.1) [] 511),(1000,.box [.ptr 1001 0,.fn Kl [.fp cl_0],.fn Kq [],.int s.1.2.2.2.1,.int s.1.2.2.2.2.1,.int s.1.2.2.2.2.2.1,.own 88,.int s.1.2.2.2.2.2.2.2.1,.int s.1.2.2.2.2.2.2.2.2.1,.int s.1.2.2.2.2.2.2.2.2.2] 123),(1001,.box [.sl 4 (List.map eCl s.1.1),.own 512,.int s.1.2.2.1] 25),(1002,.gone),(1003,.gone)]) [(0,_)] [] (fun _ A4 _ _=>?_) ?_
   ·refine goc hn ?_
    refine bselM h43 (fun hb45 h43=>?_) (fun hb45 h43=>?_)
    ·refine gor hn ?_
     obtain ⟨r46,hr47,h43⟩:=bindM h43
     show CallOk Try.prog _ _ _ _
     refine cA ((run_machine_jump_c1_0_ok N (⟨(⟨a0.w.classes,a0.w.heap,a0.w.epoch⟩:Wd),a0.fuel,a0.sends,a0.turns,(a0.frames.set ((wr ((a0.frames.length:Int) - (1:Int))).toNat) (⟨x2.class_,x2.method,x2.fast,x2.code,x2.self_,x2.args,x2.temps,x2.stack,(wr (x2.at_+(1:Int)))⟩:TFrame)),a0.back,a0.err⟩:TMachine) gl gq ((wr ((a0.frames.length:Int) - (1:Int))).toNat) x4.a hgl hgq r46 hr47).sw 5 505) ?_
     refine A4 _ _ ?_
     refine EOk.gh (Gh.reidD 1001 1 1002 506 507 rfl rfl rfl rfl rfl rfl rfl rfl rfl rfl rfl rfl) (fun _=>?_)
     refine EOk.gh (Gh.reidD 1000 6 1003 508 509 rfl rfl rfl rfl rfl rfl rfl rfl rfl rfl rfl rfl) (fun _=>?_)
     exact jn ⟨_,sj h43⟩ [(512,506),(511,507),(88,508),(505,509)]
    refine gos hn ?_
    obtain ⟨o59,h58,h43⟩:=bindM h43
    refine jk (ι:={ s // o59=s }) hn (fun s=>[]) (fun s=>[(88,.deep 10 160 [(7,(2,27)),(8,(2,27))] (List.map eTFrame s.1.2.2.2.2.2.2.1) [] 511),(511,.gone),(515,.gone),(516,.deep 2 97 [(1,(2,27))] (List.map eOb s.1.2.1) [] 515),(1000,.box [.ptr 1001 0,.fn Kl [.fp cl_0],.fn Kq [],.int s.1.2.2.2.1,.int s.1.2.2.2.2.1,.int s.1.2.2.2.2.2.1,.own 88,.int s.1.2.2.2.2.2.2.2.1,.int s.1.2.2.2.2.2.2.2.2.1,.int s.1.2.2.2.2.2.2.2.2.2] 123),(1001,.box [.sl 4 (List.map eCl s.1.1),.own 516,.int s.1.2.2.1] 25),(1002,.gone),(1003,.gone)]) [(0,_)] [] (fun _ A5 _ _=>?_) ?_
    ·refine goc hn ?_
     refine bselM h58 (fun hb60 h58=>?_) (fun hb60 h58=>?_)
     ·refine gos hn ?_
      obtain ⟨r61,hr62,h58⟩:=bindM h58
      show CallOk Try.prog _ _ _ _
      refine cA ((run_frame_pop_ok N (a0.frames.set ((wr ((a0.frames.length:Int) - (1:Int))).toNat) (⟨x2.class_,x2.method,x2.fast,x2.code,x2.self_,x2.args,x2.temps,x2.stack,(wr (x2.at_+(1:Int)))⟩:TFrame)) ((wr ((a0.frames.length:Int) - (1:Int))).toNat) r61 hr62).sw 5 510) ?_
      refine gos hn ?_
      obtain ⟨o71,h70,h58⟩:=bindM h58
      refine jk (ι:={ s // o71=s }) hn (fun s=>[]) (fun s=>[(511,.gone),(1000,.box [.ptr 1001 0,.fn Kl [.fp cl_0],.fn Kq [],.int s.1.1,.int s.1.2.1,.int s.1.2.2.1,.own 1003,.int s.1.2.2.2.2.1,.int s.1.2.2.2.2.2.1,.int s.1.2.2.2.2.2.2] 123),(1003,.deep 10 160 [(7,(2,27)),(8,(2,27))] (List.map eTFrame s.1.2.2.2.1) [] 511)]) [(0,_)] [(1001,_),(1002,_)] (fun _ A6 _ _=>?_) ?_
      ·refine COk.blkQ fun _ A7 _ _ _=>?_
       refine kp [(0,_),(2,_),(4,_),(61,_)] [(4,_),(510,_),(1000,_),(1001,_),(1002,_),(1003,_)] ?_
       refine gos hn ?_
       obtain ⟨o80,h79,h70⟩:=bindM h70
       refine jk (ι:={ s // o80=s }) hn (fun s=>[]) (fun s=>[(511,.gone),(1000,.box [.ptr 1001 0,.fn Kl [.fp cl_0],.fn Kq [],.int s.1.1,.int s.1.2.1,.int s.1.2.2.1,.own 1003,.int s.1.2.2.2.2.1,.int s.1.2.2.2.2.2.1,.int s.1.2.2.2.2.2.2] 123),(1003,.deep 10 160 [(7,(2,27)),(8,(2,27))] (List.map eTFrame s.1.2.2.2.1) [] 511)]) [(0,_)] [(1001,_),(1002,_)] (fun _ A8 _ _=>?_) ?_
       ·refine goc hn ?_
        refine bselM h79 (fun hb81 h79=>?_) (fun hb81 h79=>?_)
        ·refine gor hn ?_
         obtain ⟨r82,hr83,h79⟩:=bindM h79
         show CallOk Try.prog _ _ _ _
         refine cA (((run_machine_jump_c1_0_ok N (⟨(⟨a0.w.classes,a0.w.heap,a0.w.epoch⟩:Wd),a0.fuel,a0.sends,a0.turns,r61.2,a0.back,a0.err⟩:TMachine) gl gq ((wr ((a0.frames.length:Int) - (1:Int))).toNat) x4.a hgl hgq r82 hr83).sw 1005 510).sw 5 511) ?_
         refine A8 _ _ ?_
         exact jn ⟨_,sj h79⟩ []
        refine gos hn ?_
        obtain ⟨o91,h90,h79⟩:=bindM h79
        refine jk (ι:={ s // o91=s }) hn (fun s=>[]) (fun s=>[(1000,.box [.ptr 1001 0,.fn Kl [.fp cl_0],.fn Kq [],.int s.1.1,.int s.1.2.1,.int s.1.2.2.1,.own 1003,.int s.1.2.2.2.1,.int s.1.2.2.2.2.1,.int s.1.2.2.2.2.2] 123)]) [(0,_)] [(510,_),(1001,_),(1002,_),(1003,_)] (fun _ A9 _ _=>?_) ?_
        ·refine goc hn ?_
         refine bselM h90 (fun hb92 h90=>?_) (fun hb92 h90=>?_)
         ·refine gok hn ?_
          refine A9 _ _ ?_
          exact jn ⟨_,sj h90⟩ []
         refine gor hn ?_
         obtain ⟨r93,hr94,h90⟩:=bindM h90
         show CallOk Try.prog _ _ _ _
         refine cA (run_machine_fail_c1_0_ok N (⟨(⟨a0.w.classes,a0.w.heap,a0.w.epoch⟩:Wd),a0.fuel,a0.sends,a0.turns,r61.2,a0.back,a0.err⟩:TMachine) gl gq (11:Int) hgl hgq r93 hr94) ?_
         refine A9 _ _ ?_
         exact jn ⟨_,sj h90⟩ []
        rintro ⟨⟨v84,v85,v86,v87,v88,v89⟩,rfl⟩
        refine A8 _ _ ?_
        exact jn ⟨_,sj h79⟩ [(511,510)]
       rintro ⟨⟨v72,v73,v74,v75,v76,v77,v78⟩,rfl⟩
       refine A7 _ _ ?_
       refine A6 _ _ ?_
       exact jn ⟨_,sj h70⟩ []
      rintro ⟨⟨v63,v64,v65,v66,v67,v68,v69⟩,rfl⟩
      refine A5 _ _ ?_
      refine EOk.gh (Gh.reidD 1001 1 1002 512 513 rfl rfl rfl rfl rfl rfl rfl rfl rfl rfl rfl rfl) (fun _=>?_)
      refine EOk.gh (Gh.reidD 1000 6 1003 514 515 rfl rfl rfl rfl rfl rfl rfl rfl rfl rfl rfl rfl) (fun _=>?_)
      exact jn ⟨_,sj h58⟩ [(516,512),(515,513),(88,514),(511,515)]
     refine gos hn ?_
     obtain ⟨o106,h105,h58⟩:=bindM h58
     refine jk (ι:={ s // o106=s }) hn (fun s=>[]) (fun s=>[(88,.deep 10 160 [(7,(2,27)),(8,(2,27))] (List.map eTFrame s.1.2.2.2.2.2.2.1) [] 517),(517,.gone),(519,.gone),(520,.deep 2 97 [(1,(2,27))] (List.map eOb s.1.2.1) [] 519),(1000,.box [.ptr 1001 0,.fn Kl [.fp cl_0],.fn Kq [],.int s.1.2.2.2.1,.int s.1.2.2.2.2.1,.int s.1.2.2.2.2.2.1,.own 88,.int s.1.2.2.2.2.2.2.2.1,.int s.1.2.2.2.2.2.2.2.2.1,.int s.1.2.2.2.2.2.2.2.2.2] 123),(1001,.box [.sl 4 (List.map eCl s.1.1),.own 520,.int s.1.2.2.1] 25),(1002,.gone),(1003,.gone)]) [(0,_)] [] (fun _ A10 _ _=>?_) ?_
     ·refine goc hn ?_
      refine bselM h105 (fun hb107 h105=>?_) (fun hb107 h105=>?_)
      ·refine gos hn ?_
       obtain ⟨r108,hr109,h105⟩:=bindM h105
       show CallOk Try.prog _ _ _ _
       refine cA ((run_frame_pop_ok N (a0.frames.set ((wr ((a0.frames.length:Int) - (1:Int))).toNat) (⟨x2.class_,x2.method,x2.fast,x2.code,x2.self_,x2.args,x2.temps,x2.stack,(wr (x2.at_+(1:Int)))⟩:TFrame)) ((wr ((a0.frames.length:Int) - (1:Int))).toNat) r108 hr109).sw 5 516) ?_
       refine COk.seqQ fun _ A11 _ _=>?_
       refine kp [(0,_),(6,_)] [(6,_),(516,_),(1000,_),(1001,_),(1002,_),(1003,_)] ?_
       refine god hn (by kernel_rfl) ?_
       refine lenM (fun _=>?_)
       refine Or.inr ?_
       obtain ⟨hg111,h105⟩:=guardM h105
       refine takeM hg111 rfl rfl ?_
       refine A11 _ _ ?_
       refine gor hn ?_
       obtain ⟨r112,hr113,h105⟩:=bindM h105
       show CallOk Try.prog _ _ _ _
       refine cA ((((run_machine_give_c1_0_ok N (⟨(⟨a0.w.classes,a0.w.heap,a0.w.epoch⟩:Wd),a0.fuel,a0.sends,a0.turns,(r108.2.take (wr ((r108.2.length:Int) - (1:Int))).toNat),a0.back,a0.err⟩:TMachine) gl gq r108.1 hgl hgq r112 hr113).sw 1003 88).sw 1005 788).sw 5 517) ?_
       refine A10 _ _ ?_
       refine EOk.gh (Gh.reidD 1001 1 1002 518 519 rfl rfl rfl rfl rfl rfl rfl rfl rfl rfl rfl rfl) (fun _=>?_)
       exact jn ⟨_,sj h105⟩ [(520,518)]
      refine gos hn ?_
      obtain ⟨o125,h124,h105⟩:=bindM h105
      refine jk (ι:={ s // o125=s }) hn (fun s=>[]) (fun s=>[(520,.gone),(521,.gone),(522,.deep 2 97 [(1,(2,27))] (List.map eOb s.1.2.1) [] 521),(1000,.box [.ptr 1001 0,.fn Kl [.fp cl_0],.fn Kq [],.int s.1.2.2.2.1,.int s.1.2.2.2.2.1,.int s.1.2.2.2.2.2.1,.own 1003,.int s.1.2.2.2.2.2.2.2.1,.int s.1.2.2.2.2.2.2.2.2.1,.int s.1.2.2.2.2.2.2.2.2.2] 123),(1001,.box [.sl 4 (List.map eCl s.1.1),.own 522,.int s.1.2.2.1] 25),(1002,.gone),(1003,.deep 10 160 [(7,(2,27)),(8,(2,27))] (List.map eTFrame s.1.2.2.2.2.2.2.1) [] 520)]) [(0,_)] [] (fun _ A12 _ _=>?_) ?_
      ·refine goc hn ?_
       refine bselM h124 (fun hb126 h124=>?_) (fun hb126 h124=>?_)
       ·refine gor hn ?_
        obtain ⟨r127,hr128,h124⟩:=bindM h124
        show CallOk Try.prog _ _ _ _
        refine cA ((run_machine_guard_c1_0_ok N (⟨(⟨a0.w.classes,a0.w.heap,a0.w.epoch⟩:Wd),a0.fuel,a0.sends,a0.turns,(a0.frames.set ((wr ((a0.frames.length:Int) - (1:Int))).toNat) (⟨x2.class_,x2.method,x2.fast,x2.code,x2.self_,x2.args,x2.temps,x2.stack,(wr (x2.at_+(1:Int)))⟩:TFrame)),a0.back,a0.err⟩:TMachine) gl gq ((wr ((a0.frames.length:Int) - (1:Int))).toNat) x4 hgl hgq r127 hr128).sw 5 520) ?_
        refine A12 _ _ ?_
        refine EOk.gh (Gh.reidD 1001 1 1002 521 522 rfl rfl rfl rfl rfl rfl rfl rfl rfl rfl rfl rfl) (fun _=>?_)
        exact jn ⟨_,sj h124⟩ [(522,521),(521,522)]
       refine gos hn ?_
       obtain ⟨o140,h139,h124⟩:=bindM h124
       refine jk (ι:={ s // o140=s }) hn (fun s=>[]) (fun s=>[(523,.gone),(524,.deep 2 97 [(1,(2,27))] (List.map eOb s.1.2.1) [] 523),(525,.gone),(1000,.box [.ptr 1001 0,.fn Kl [.fp cl_0],.fn Kq [],.int s.1.2.2.2.1,.int s.1.2.2.2.2.1,.int s.1.2.2.2.2.2.1,.own 1003,.int s.1.2.2.2.2.2.2.2.1,.int s.1.2.2.2.2.2.2.2.2.1,.int s.1.2.2.2.2.2.2.2.2.2] 123),(1001,.box [.sl 4 (List.map eCl s.1.1),.own 524,.int s.1.2.2.1] 25),(1002,.gone),(1003,.deep 10 160 [(7,(2,27)),(8,(2,27))] (List.map eTFrame s.1.2.2.2.2.2.2.1) [] 525)]) [(0,_)] [] (fun _ A13 _ _=>?_) ?_
       ·refine goc hn ?_
        refine bselM h139 (fun hb141 h139=>?_) (fun hb141 h139=>?_)
        ·refine kp [(0,_)] [(1000,_),(1001,_),(1002,_),(1003,_)] ?_
         refine gor hn ?_
         obtain ⟨r142,hr143,h139⟩:=bindM h139
         show CallOk Try.prog _ _ _ _
         refine cA (run_machine_count_c1_0_ok N (⟨(⟨a0.w.classes,a0.w.heap,a0.w.epoch⟩:Wd),a0.fuel,a0.sends,a0.turns,(a0.frames.set ((wr ((a0.frames.length:Int) - (1:Int))).toNat) (⟨x2.class_,x2.method,x2.fast,x2.code,x2.self_,x2.args,x2.temps,x2.stack,(wr (x2.at_+(1:Int)))⟩:TFrame)),a0.back,a0.err⟩:TMachine) gl gq true hgl hgq r142 hr143) ?_
         refine A13 _ _ ?_
         refine EOk.gh (Gh.reidD 1001 1 1002 523 524 rfl rfl rfl rfl rfl rfl rfl rfl rfl rfl rfl rfl) (fun _=>?_)
         refine EOk.gh (Gh.resh 1003 525 rfl rfl rfl rfl) (fun _=>?_)
         exact jn ⟨_,sj h139⟩ [(524,523),(523,524)]
        refine kp [(0,_),(2,_),(4,_)] [(4,_),(1000,_),(1001,_),(1002,_),(1003,_)] ?_
        refine gor hn ?_
        obtain ⟨r144,hr145,h139⟩:=bindM h139
        show CallOk Try.prog _ _ _ _
        refine cA ((((run_machine_move_c1_0_ok N (⟨(⟨a0.w.classes,a0.w.heap,a0.w.epoch⟩:Wd),a0.fuel,a0.sends,a0.turns,(a0.frames.set ((wr ((a0.frames.length:Int) - (1:Int))).toNat) (⟨x2.class_,x2.method,x2.fast,x2.code,x2.self_,x2.args,x2.temps,x2.stack,(wr (x2.at_+(1:Int)))⟩:TFrame)),a0.back,a0.err⟩:TMachine) gl gq ((wr ((a0.frames.length:Int) - (1:Int))).toNat) x4 hgl hgq r144 hr145).sw 3 526).sw 2 527).sw 5 528) ?_
        refine A13 _ _ ?_
        exact jn ⟨_,sj h139⟩ [(524,527),(523,526),(525,528)]
       rintro ⟨⟨v129,v130,v131,v132,v133,v134,v135,v136,v137,v138⟩,rfl⟩
       refine A12 _ _ ?_
       exact jn ⟨_,sj h124⟩ [(522,524),(521,523),(520,525)]
      rintro ⟨⟨v114,v115,v116,v117,v118,v119,v120,v121,v122,v123⟩,rfl⟩
      refine A10 _ _ ?_
      refine EOk.gh (Gh.reidD 1000 6 1003 529 530 rfl rfl rfl rfl rfl rfl rfl rfl rfl rfl rfl rfl) (fun _=>?_)
      exact jn ⟨_,sj h105⟩ [(520,522),(519,521),(88,529),(517,530)]
     rintro ⟨⟨v95,v96,v97,v98,v99,v100,v101,v102,v103,v104⟩,rfl⟩
     refine A5 _ _ ?_
     exact jn ⟨_,sj h58⟩ [(516,520),(515,519),(511,517)]
    rintro ⟨⟨v48,v49,v50,v51,v52,v53,v54,v55,v56,v57⟩,rfl⟩
    refine A4 _ _ ?_
    exact jn ⟨_,sj h43⟩ [(512,516),(511,515),(505,511)]
   rintro ⟨⟨v33,v34,v35,v36,v37,v38,v39,v40,v41,v42⟩,rfl⟩
   refine A3 _ _ ?_
   exact jn ⟨_,sj h28⟩ [(510,512),(509,511),(502,88),(501,505)]
  rintro ⟨⟨v18,v19,v20,v21,v22,v23,v24,v25,v26,v27⟩,rfl⟩
  refine A2 _ _ ?_
  refine A1 _ _ ?_
  exact jn ⟨_,sj h16⟩ []
 rintro ⟨⟨v6,v7,v8,v9,v10,v11,v12,v13,v14,v15⟩,rfl⟩
 refine EOk.done ?_
 obtain rfl:=Option.some.inj h
 exact ⟨[(2,510),(3,509),(4,502),(5,501)],_,fm⟩

/- run.With -/
set_option maxRecDepth 100000 in
set_option maxHeartbeats 8000000 in
theorem run_With_c1_0_ok (N:Nat) (a0:Wd) (a1:TCall) (a2:Int) (g3:St→Int→ByteArray→Option (Int×Int)) (g4:Int→Int→Option (Fs×Bool)) {K3:Nat} {c3_0:List AV} (hg3:∀x0_ x1_ x2_ y_,g3 x0_ x1_ x2_=some y_→Spec Try.prog K3 [] [.agg (eSt x0_),.int x1_,.str x2_,.fp c3_0] (.tup [.int y_.1,.int y_.2]) [] []) {K4:Nat} (hg4:∀x0_ x1_ y_,g4 x0_ x1_=some y_→Spec Try.prog K4 [] [.int x0_,.int x1_] (.tup [.agg (eFs y_.1),.bool y_.2]) [] []) (r:(Wd×TRan)) (h:run_With N a0 a1 a2 g3 g4=some r):Spec Try.prog 25 [] [.agg (eWd a0),.agg (eTCall a1),.int a2,.fn K3 [.fp c3_0],.fn K4 []] (.tup [.agg (eWd r.1),.agg (eTRan r.2)]) [] []:=by
 refine Spec.of tabOk Try.func25 rfl Try.ntmps25 (by kernel_rfl) rfl rfl rfl fun Γ hn=>?_
 unfold run_With at h
 refine gos hn ?_
 refine COk.seqQ fun _ A0 _ R0=>?_
 refine gos hn ?_
 obtain ⟨r1,hr2,h⟩:=bindM h
 show CallOk Try.prog _ _ _ _
 refine cA (run_Wrong_ok N a0 a1 a2 r1 hr2) ?_
 refine gos hn ?_
 refine goc hn ?_
 refine bselM h (fun hb3 h=>?_) (fun hb3 h=>?_)
 ·refine gos hn ?_
  obtain ⟨r4,hr5,h⟩:=bindM h
  show CallOk Try.prog _ _ _ _
  refine cA (((class_Own_ok N a0 r4 hr5).sw 0 24).sw 1 724) ?_
  refine COk.fzAllD 24 rfl ?_
  refine got hn ?_
  refine R0 _ _ ?_
  obtain rfl:=Option.some.inj h
  exact ⟨[],_,fm⟩
 refine gok hn ?_
 refine A0 _ _ ?_
 refine gos hn ?_
 obtain ⟨r6,hr7,h⟩:=bindM h
 show CallOk Try.prog _ _ _ _
 refine cA (((class_Own_ok N a0 r6 hr7).sw 0 28).sw 1 728) ?_
 refine kp [(2,_),(3,_),(4,_),(5,_),(6,_),(10,_),(11,_),(13,_)] [(5,_),(6,_),(10,_),(11,_),(13,_),(28,_),(728,_)] ?_
 refine gos hn ?_
 refine COk.seqQ fun _ A1 _ _=>?_
 refine COk.seqQ fun _ A2 _ _=>?_
 refine god hn (by kernel_rfl) ?_
 obtain ⟨r8,hr9,h⟩:=bindM h
 show CallOk Try.prog _ _ _ _
 refine cD (value_Class_ok N r6.heap a1.self_ r8 hr9) ?_
 obtain ⟨r10,hr11,h⟩:=bindM h
 show CallOk Try.prog _ _ _ _
 refine cD (class_Find_ok N (⟨r6.classes,r6.heap,r6.epoch⟩:Wd) r8 a1.name r10 hr11) ?_
 refine A2 _ _ ?_
 refine kp [(5,_),(6,_),(10,_),(11,_),(13,_),(14,_),(15,_),(16,_)] [(5,_),(6,_),(10,_),(11,_),(13,_),(28,_),(33,_),(728,_)] ?_
 refine gos hn ?_
 refine COk.nilrowB 33 6 501 10 160 rfl rfl rfl rfl rfl rfl ?_
 refine COk.gh (Gh.toDeep 501 502 [(7,(2,27)),(8,(2,27))] rfl rfl rfl rfl) (fun _=>?_)
 obtain ⟨o20,h19,h⟩:=bindM h
 refine jk (ι:={ s // o20=s }) hn (fun s=>[]) (fun s=>[(33,.box [.ptr 13 0,.fn K3 [.fp c3_0],.fn K4 [],.int s.1.1,.int s.1.2.1,.int s.1.2.2.1,.own 501,.int s.1.2.2.2.2.1,.int s.1.2.2.2.2.2.1,.int s.1.2.2.2.2.2.2] 123),(501,.deep 10 160 [(7,(2,27)),(8,(2,27))] (List.map eTFrame s.1.2.2.2.1) [] 502)]) [(5,_),(10,_),(11,_),(13,_),(14,_)] [(5,_),(10,_),(11,_),(13,_),(28,_),(502,_),(728,_)] (fun _ A3 _ _=>?_) ?_
 ·refine goc hn ?_
  refine bselM h19 (fun hb21 h19=>?_) (fun hb21 h19=>?_)
  ·refine gor hn ?_
   obtain ⟨r22,hr23,h19⟩:=bindM h19
   show CallOk Try.prog _ _ _ _
   refine cA ((((run_machine_fail_c1_0_ok N (⟨(⟨r6.classes,r6.heap,r6.epoch⟩:Wd),a2,(0:Int),(0:Int),([]:List TFrame),(⟨(0:Int),(0:Int)⟩:V),(0:Int)⟩:TMachine) g3 g4 (10:Int) hg3 hg4 r22 hr23).sw 1000 33).sw 1001 13).sw 1003 501) ?_
   refine A3 _ _ ?_
   exact jn ⟨_,sj h19⟩ []
  refine gor hn ?_
  obtain ⟨r24,hr25,h19⟩:=bindM h19
  show CallOk Try.prog _ _ _ _
  refine cA ((run_machine_enter_c1_0_ok N (⟨(⟨r6.classes,r6.heap,r6.epoch⟩:Wd),a2,(0:Int),(0:Int),([]:List TFrame),(⟨(0:Int),(0:Int)⟩:V),(0:Int)⟩:TMachine) g3 g4 r10.1 r10.2 a1.self_ a1.args hg3 hg4 r24 hr25).swl [(1000,33),(1001,13),(1003,501),(1002,28),(1005,502),(5,503),(4,504)] rfl) ?_
  refine A3 _ _ ?_
  exact jn ⟨_,sj h19⟩ [(501,504),(502,503)]
 rintro ⟨⟨v12,v13,v14,v15,v16,v17,v18⟩,rfl⟩
 refine A1 _ _ ?_
 refine COk.seqQ fun _ A4 _ _=>?_
 obtain ⟨o57,h58,h⟩:=bindM h
 refine jk (ι:={ s // o57=s }) hn (fun s=>[]) (fun s=>[(13,.box [.sl 4 (List.map eCl s.1.1),.own 28,.int s.1.2.2.1] 25),(28,.deep 2 97 [(1,(2,27))] (List.map eOb s.1.2.1) [] 728),(33,.box [.ptr 13 0,.fn K3 [.fp c3_0],.fn K4 [],.int s.1.2.2.2.1,.int s.1.2.2.2.2.1,.int s.1.2.2.2.2.2.1,.own 501,.int s.1.2.2.2.2.2.2.2.1,.int s.1.2.2.2.2.2.2.2.2.1,.int s.1.2.2.2.2.2.2.2.2.2] 123),(501,.deep 10 160 [(7,(2,27)),(8,(2,27))] (List.map eTFrame s.1.2.2.2.2.2.2.1) [] 502)]) [(5,_),(10,_),(11,_),(13,_),(14,_)] [(5,_),(10,_),(11,_),(502,_),(728,_)] (fun _ A5 _ _=>?_) ?_
 ·refine COk.blkQ fun _ _ E6 _ _=>?_
  refine lq (ι:={ q:(Nat×(List Cl)×(List Ob)×Int×Int×Int×Int×(List TFrame)×Int×Int×Int) // run_With_l1 N g3 g4 q.1 q.2.1 q.2.2.1 q.2.2.2.1 q.2.2.2.2.1 q.2.2.2.2.2.1 q.2.2.2.2.2.2.1 q.2.2.2.2.2.2.2.1 q.2.2.2.2.2.2.2.2.1 q.2.2.2.2.2.2.2.2.2.1 q.2.2.2.2.2.2.2.2.2.2=some o57 }) hn (fun q=>[]) (fun q=>[(13,.box [.sl 4 (List.map eCl q.1.2.1),.own 28,.int q.1.2.2.2.1] 25),(28,.deep 2 97 [(1,(2,27))] (List.map eOb q.1.2.2.1) [] 728),(33,.box [.ptr 13 0,.fn K3 [.fp c3_0],.fn K4 [],.int q.1.2.2.2.2.1,.int q.1.2.2.2.2.2.1,.int q.1.2.2.2.2.2.2.1,.own 501,.int q.1.2.2.2.2.2.2.2.2.1,.int q.1.2.2.2.2.2.2.2.2.2.1,.int q.1.2.2.2.2.2.2.2.2.2.2] 123),(501,.deep 10 160 [(7,(2,27)),(8,(2,27))] (List.map eTFrame q.1.2.2.2.2.2.2.2.1) [] 502)]) (fun q=>q.1.1) [(5,_),(10,_),(11,_),(13,_),(14,_)] [(5,_),(10,_),(11,_),(502,_),(728,_)] ⟨(N,r6.classes,r6.heap,r6.epoch,v12,v13,v14,v15,v16,v17,v18),h58⟩ [] ?_
  rintro ⟨⟨n_,v27,v28,v29,v30,v31,v32,v33,v34,v35,v36⟩,h58⟩ _ A7 X7 _
  rcases n_ with _|n61
  ·rw [run_With_l1.eq_1] at h58
   cases h58
  ·replace h58:=(run_With_l1.eq_2 _ _ _ _ _ _ _ _ _ _ _ _ _ _).symm.trans h58
   refine COk.seqQ fun _ A8 X8 _=>?_
   refine COk.seqQ fun _ A9 _ _=>?_
   obtain ⟨o64,h63,h58⟩:=bindM h58
   refine jk (ι:={ s // o64=s }) hn (fun s=>[(70,.bool s.1)]) (fun s=>[]) [(5,_),(10,_),(11,_),(13,_),(14,_)] [(5,_),(10,_),(11,_),(13,_),(28,_),(33,_),(501,_),(502,_),(728,_)] (fun _ A10 _ _=>?_) ?_
   ·refine gor hn ?_
    refine bselM h63 (fun hb65 h63=>?_) (fun hb65 h63=>?_)
    ·refine bselT hb65 ?_
     refine bselT hb65 ?_
     refine bselT hb65 ?_
     refine bselT hb65 ?_
     refine lenM (fun _=>?_)
     refine bselT hb65 ?_
     refine bselT hb65 ?_
     refine A10 _ _ ?_
     exact jn ⟨_,sj h63⟩ []
    refine bselF hb65 ?_
    refine bselF hb65 ?_
    refine bselF hb65 ?_
    refine bselF hb65 ?_
    refine bselF hb65 ?_
    refine bselF hb65 ?_
    refine A10 _ _ ?_
    exact jn ⟨_,sj h63⟩ []
   rintro ⟨v62,hv_⟩
   replace hv_:=hv_.symm
   subst hv_
   refine A9 _ _ ?_
   refine goc hn ?_
   refine bselM h58 (fun hb67 h58=>?_) (fun hb67 h58=>?_)
   ·refine gok hn ?_
    refine A8 _ _ ?_
    refine COk.blkQ fun _ A11 _ _ _=>?_
    refine gor hn ?_
    obtain ⟨r68,hr69,h58⟩:=bindM h58
    show CallOk Try.prog _ _ _ _
    refine cA ((run_machine_step_c1_0_ok N (⟨(⟨v27,v28,v29⟩:Wd),v30,v31,v32,v33,(⟨v34,v35⟩:V),v36⟩:TMachine) g3 g4 hg3 hg4 r68 hr69).swl [(1000,33),(1001,13),(1003,501),(1002,28),(1004,728),(1005,502),(3,505),(2,506),(5,507),(4,508)] rfl) ?_
    refine A11 _ _ ?_
    refine A7 _ _ ?_
    exact jn ⟨(n61,r68.w.classes,r68.w.heap,r68.w.epoch,r68.fuel,r68.sends,r68.turns,r68.frames,r68.back.k,r68.back.n,r68.err),h58⟩ [(28,506),(728,505),(501,508),(502,507)] (by show n61 < n61+1; omega)
   refine goe hn ?_
   refine X8 _ _ _ ?_
   refine X7 _ _ _ ?_
   refine E6 _ _ ?_
   refine A5 _ _ ?_
   exact jn ⟨_,sj h58⟩ []
 rintro ⟨⟨v47,v48,v49,v50,v51,v52,v53,v54,v55,v56⟩,rfl⟩
 refine A4 _ _ ?_
 refine COk.seqQ fun _ A12 _ R12=>?_
 refine gos hn ?_
 refine goc hn ?_
 refine bselM h (fun hb70 h=>?_) (fun hb70 h=>?_)
 ·refine COk.seqQ fun _ A13 _ _=>?_
  refine god hn (by kernel_rfl) ?_
  obtain ⟨r71,hr72,h⟩:=bindM h
  show CallOk Try.prog _ _ _ _
  refine cA (((class_Own_ok N a0 r71 hr72).sw 0 79).sw 1 779) ?_
  refine A13 _ _ ?_
  refine COk.fzAllD 79 rfl ?_
  refine got hn ?_
  refine R12 _ _ ?_
  obtain rfl:=Option.some.inj h
  exact ⟨[],_,fm⟩
 refine gok hn ?_
 refine A12 _ _ ?_
 refine COk.seqQ fun _ A14 _ _=>?_
 refine god hn (by kernel_rfl) ?_
 refine A14 _ _ ?_
 refine COk.fzAllD 28 rfl ?_
 refine got hn ?_
 obtain rfl:=Option.some.inj h
 exact ⟨[],_,fm⟩

/- run.Plain$1 -/
set_option maxRecDepth 100000 in
set_option maxHeartbeats 8000000 in
theorem run_Plain_1_ok (N:Nat) (a0:St) (a1:Int) (a2:ByteArray) (b0:Wd) (r:(Int×Int)) (h:run_Plain_1 N a0 a1 a2 b0=some r):Spec Try.prog 42 [] [.agg (eSt a0),.int a1,.str a2,.fp (eWd b0)] (.tup [.int r.1,.int r.2]) [] []:=by
 refine Spec.of tabOk Try.func42 rfl Try.ntmps42 (by kernel_rfl) rfl rfl rfl fun Γ hn=>?_
 unfold run_Plain_1 at h
 refine gos hn ?_
 refine gos hn ?_
 obtain ⟨r1,hr2,h⟩:=bindM h
 show CallOk Try.prog _ _ _ _
 refine cA (class_Find_ok N b0 a1 a2 r1 hr2) ?_
 refine got hn ?_
 obtain rfl:=Option.some.inj h
 exact ⟨[],_,fm⟩

/- run.None -/
set_option maxRecDepth 100000 in
set_option maxHeartbeats 8000000 in
theorem run_None_ok (N:Nat) (a0:Int) (a1:Int) (r:(Fs×Bool)) (h:run_None N a0 a1=some r):Spec Try.prog 44 [] [.int a0,.int a1] (.tup [.agg (eFs r.1),.bool r.2]) [] []:=by
 refine Spec.of tabOk Try.func44 rfl Try.ntmps44 (by kernel_rfl) rfl rfl rfl fun Γ hn=>?_
 unfold run_None at h
 refine gos hn ?_
 refine gos hn ?_
 refine got hn ?_
 obtain rfl:=Option.some.inj h
 exact ⟨[],_,fm⟩

/- run.Plain -/
set_option maxRecDepth 100000 in
set_option maxHeartbeats 8000000 in
theorem run_Plain_ok (N:Nat) (a0:Wd) (a1:TCall) (a2:Int) (r:(Wd×TRan)) (h:run_Plain N a0 a1 a2=some r):Spec Try.prog 14 [] [.agg (eWd a0),.agg (eTCall a1),.int a2] (.tup [.agg (eWd r.1),.agg (eTRan r.2)]) [] []:=by
 refine Spec.of tabOk Try.func14 rfl Try.ntmps14 (by kernel_rfl) rfl rfl rfl fun Γ hn=>?_
 unfold run_Plain at h
 refine gos hn ?_
 refine COk.gh (Gh.fzBox 3 3 rfl rfl rfl) (fun _=>?_)
 refine kp [(2,_),(3,_),(4,_),(6,_),(7,_)] [(4,_),(6,_),(7,_)] ?_
 refine gos hn ?_
 obtain ⟨r1,hr2,h⟩:=bindM h
 show CallOk Try.prog _ _ _ _
 refine cA (run_With_c1_0_ok N a0 a1 a2 (fun x0_ x1_ x2_=>run_Plain_1 N x0_ x1_ x2_ a0) (fun x0_ x1_=>run_None N x0_ x1_) (fun x0_ x1_ x2_ y_ hy_=>run_Plain_1_ok N x0_ x1_ x2_ a0 y_ hy_) (fun x0_ x1_ y_ hy_=>run_None_ok N x0_ x1_ y_ hy_) r1 hr2) ?_
 refine got hn ?_
 obtain rfl:=Option.some.inj h
 exact ⟨[],_,fm⟩

/- qcref1.SameCode -/
set_option maxRecDepth 100000 in
set_option maxHeartbeats 8000000 in
theorem qcref1_SameCode_ok (N:Nat) (a0:(List Ins)) (a1:(List Ins)) (r:Bool) (h:qcref1_SameCode N a0 a1=some r):Spec Try.prog 49 [] [.sl 5 (List.map eIns a0),.sl 5 (List.map eIns a1)] (.bool r) [] []:=by
 refine Spec.of tabOk Try.func49 rfl Try.ntmps49 (by kernel_rfl) rfl rfl rfl fun Γ hn=>?_
 unfold qcref1_SameCode at h
 refine gos hn ?_
 refine COk.seqQ fun _ A0 _ R0=>?_
 refine gos hn ?_
 refine lenM (fun _=>?_)
 refine lenM (fun _=>?_)
 refine goc hn ?_
 refine bselM h (fun hb3 h=>?_) (fun hb3 h=>?_)
 ·refine gos hn ?_
  refine got hn ?_
  refine R0 _ _ ?_
  obtain rfl:=Option.some.inj h
  exact ⟨[],_,fm⟩
 refine gok hn ?_
 refine A0 _ _ ?_
 refine COk.seqQ fun _ A1 _ R1=>?_
 refine gos hn ?_
 refine lenM (fun hl4=>?_)
 obtain ⟨o6,h7,h⟩:=bindM h
 refine jk (ι:={ s // o6=Ctl.next s }) hn (fun s=>[]) (fun s=>[]) [] [] (fun _ A2 _ R2=>?_) ?_
 ·refine COk.blkQ fun _ _ E3 _ R3=>?_
  refine lq (ι:={ q:((List Ins)×Nat) // q.1=a0.drop q.2∧qcref1_SameCode_l1 N a1 q.1 q.2=some o6 }) hn (fun q=>[(13,.int (q.1.2:Int))]) (fun q=>[]) (fun q=>q.1.1.length) [(0,_),(1,_),(12,_)] [] ⟨(a0,0),rfl,h7⟩ [] ?_
  rintro ⟨⟨rest_,k5⟩,hd9,h7⟩ _ A4 X4 R4
  replace hd9:rest_=a0.drop k5:=hd9
  rcases rest_ with _|⟨x11,rest8⟩
  ·have hlt13:=restNil hd9
   replace h7:=(qcref1_SameCode_l1.eq_1 _ _ _).symm.trans h7
   refine gos hn ?_
   refine COk.seqQ fun _ _ X5 _=>?_
   refine goc hn ?_
   refine bselF hlt13 ?_
   refine goe hn ?_
   refine X5 _ _ _ ?_
   refine X4 _ _ _ ?_
   refine E3 _ _ ?_
   refine A2 _ _ ?_
   exact jn ⟨_,sj h7⟩ []
  ·obtain ⟨hx12,hd2,hlt13⟩:=restCons hd9
   replace h7:=(qcref1_SameCode_l1.eq_2 _ _ _ _ _).symm.trans h7
   refine gos hn ?_
   refine COk.seqQ fun _ A6 _ _=>?_
   refine goc hn ?_
   refine bselT hlt13 ?_
   refine gok hn ?_
   refine A6 _ _ ?_
   refine COk.seqQ fun _ A7 _ R7=>?_
   refine COk.blkQ fun _ A8 _ _ R8=>?_
   refine gos hn ?_
   refine COk.seqQ fun _ A9 _ _=>?_
   refine god hn (by kernel_rfl) ?_
   refine idxK hx12 ?_
   obtain ⟨x14,hx15,h7⟩:=bindM h7
   refine idxM hx15 ?_
   refine A9 _ _ ?_
   refine goc hn ?_
   refine bselM h7 (fun hb16 h7=>?_) (fun hb16 h7=>?_)
   ·refine gos hn ?_
    refine got hn ?_
    refine R8 _ _ ?_
    refine R7 _ _ ?_
    refine R4 _ _ ?_
    refine R3 _ _ ?_
    refine R2 _ _ ?_
    refine R1 _ _ ?_
    obtain rfl:=Option.some.inj h7
    obtain rfl:=Option.some.inj h
    exact ⟨[],_,fm⟩
   refine gok hn ?_
   refine A8 _ _ ?_
   refine A7 _ _ ?_
   refine gor hn ?_
   refine Or.inl (And.intro (inrK hx12 hl4) ?_)
   refine A4 _ _ ?_
   exact jn ⟨(rest8,k5+1),hd2,h7⟩ [] (by show rest8.length < rest8.length+1; omega)
 rintro ⟨⟨⟩,rfl⟩
 refine A1 _ _ ?_
 refine gos hn ?_
 refine got hn ?_
 obtain rfl:=Option.some.inj h
 exact ⟨[],_,fm⟩

/- qcref1.SameWorld -/
set_option maxRecDepth 100000 in
set_option maxHeartbeats 8000000 in
theorem qcref1_SameWorld_ok (N:Nat) (a0:Wd) (a1:Wd) (r:Bool) (h:qcref1_SameWorld N a0 a1=some r):Spec Try.prog 18 [] [.agg (eWd a0),.agg (eWd a1)] (.bool r) [] []:=by
 refine Spec.of tabOk Try.func18 rfl Try.ntmps18 (by kernel_rfl) rfl rfl rfl fun Γ hn=>?_
 unfold qcref1_SameWorld at h
 refine gos hn ?_
 refine COk.seqQ fun _ A0 _ R0=>?_
 refine COk.seqQ fun _ A1 _ _=>?_
 obtain ⟨o3,h2,h⟩:=bindM h
 refine jk (ι:={ s // o3=s }) hn (fun s=>[(36,.bool s.1)]) (fun s=>[]) [(2,_),(3,_)] [(2,_),(3,_)] (fun _ A2 _ _=>?_) ?_
 ·refine gor hn ?_
  refine bselM h2 (fun hb4 h2=>?_) (fun hb4 h2=>?_)
  ·refine bselT hb4 ?_
   refine bselT hb4 ?_
   refine bselT hb4 ?_
   refine bselT hb4 ?_
   refine bselT hb4 ?_
   refine bselT hb4 ?_
   refine bselT hb4 ?_
   refine A2 _ _ ?_
   exact jn ⟨_,sj h2⟩ []
  refine bselF hb4 ?_
  refine bselF hb4 ?_
  refine lenM (fun _=>?_)
  refine bselF hb4 ?_
  refine bselF hb4 ?_
  refine bselF hb4 ?_
  refine lenM (fun _=>?_)
  refine bselF hb4 ?_
  refine bselF hb4 ?_
  refine bselM h2 (fun hb7 h2=>?_) (fun hb7 h2=>?_)
  ·refine bselT hb7 ?_
   refine bselT hb7 ?_
   refine bselT hb7 ?_
   refine bselT hb7 ?_
   refine bselT hb7 ?_
   refine bselT hb7 ?_
   refine bselT hb7 ?_
   refine A2 _ _ ?_
   exact jn ⟨_,sj h2⟩ []
  refine bselF hb7 ?_
  refine bselF hb7 ?_
  refine lenM (fun _=>?_)
  refine bselF hb7 ?_
  refine bselF hb7 ?_
  refine bselF hb7 ?_
  refine lenM (fun _=>?_)
  refine bselF hb7 ?_
  refine bselF hb7 ?_
  refine A2 _ _ ?_
  exact jn ⟨_,sj h2⟩ []
 rintro ⟨v1,hv_⟩
 replace hv_:=hv_.symm
 subst hv_
 refine A1 _ _ ?_
 refine goc hn ?_
 refine bselM h (fun hb10 h=>?_) (fun hb10 h=>?_)
 ·refine gos hn ?_
  refine got hn ?_
  refine R0 _ _ ?_
  obtain rfl:=Option.some.inj h
  exact ⟨[],_,fm⟩
 refine gok hn ?_
 refine A0 _ _ ?_
 refine COk.seqQ fun _ A3 _ R3=>?_
 refine gos hn ?_
 refine lenM (fun hl11=>?_)
 obtain ⟨o13,h14,h⟩:=bindM h
 refine jk (ι:={ s // o13=Ctl.next s }) hn (fun s=>[]) (fun s=>[]) [(2,_),(3,_)] [(2,_),(3,_)] (fun _ A4 _ R4=>?_) ?_
 ·refine COk.blkQ fun _ _ E5 _ R5=>?_
  refine lq (ι:={ q:((List Cl)×Nat) // q.1=a0.classes.drop q.2∧qcref1_SameWorld_l1 N a1 q.1 q.2=some o13 }) hn (fun q=>[(40,.int (q.1.2:Int))]) (fun q=>[]) (fun q=>q.1.1.length) [(2,_),(3,_),(38,_),(39,_)] [(2,_),(3,_)] ⟨(a0.classes,0),rfl,h14⟩ [] ?_
  rintro ⟨⟨rest_,k12⟩,hd16,h14⟩ _ A6 X6 R6
  replace hd16:rest_=a0.classes.drop k12:=hd16
  rcases rest_ with _|⟨x18,rest15⟩
  ·have hlt20:=restNil hd16
   replace h14:=(qcref1_SameWorld_l1.eq_1 _ _ _).symm.trans h14
   refine gos hn ?_
   refine COk.seqQ fun _ _ X7 _=>?_
   refine goc hn ?_
   refine bselF hlt20 ?_
   refine goe hn ?_
   refine X7 _ _ _ ?_
   refine X6 _ _ _ ?_
   refine E5 _ _ ?_
   refine A4 _ _ ?_
   exact jn ⟨_,sj h14⟩ []
  ·obtain ⟨hx19,hd2,hlt20⟩:=restCons hd16
   replace h14:=(qcref1_SameWorld_l1.eq_2 _ _ _ _ _).symm.trans h14
   refine gos hn ?_
   refine COk.seqQ fun _ A8 _ _=>?_
   refine goc hn ?_
   refine bselT hlt20 ?_
   refine gok hn ?_
   refine A8 _ _ ?_
   refine COk.seqQ fun _ A9 _ R9=>?_
   refine COk.blkQ fun _ A10 _ _ R10=>?_
   refine gos hn ?_
   refine idxK hx19 ?_
   refine gos hn ?_
   obtain ⟨x21,hx22,h14⟩:=bindM h14
   refine idxM hx22 ?_
   refine COk.seqQ fun _ A11 _ R11=>?_
   refine COk.seqQ fun _ A12 _ _=>?_
   obtain ⟨o25,h24,h14⟩:=bindM h14
   refine jk (ι:={ s // o25=s }) hn (fun s=>[(77,.bool s.1)]) (fun s=>[]) [(2,_),(3,_),(6,_),(7,_),(38,_),(39,_),(40,_)] [(2,_),(3,_),(6,_),(7,_)] (fun _ A13 _ _=>?_) ?_
   ·refine kp [(2,_),(3,_),(6,_),(7,_),(38,_),(39,_),(40,_)] [(2,_),(3,_),(6,_),(7,_)] ?_
    refine gor hn ?_
    refine bselM h24 (fun hb26 h24=>?_) (fun hb26 h24=>?_)
    ·refine bselT hb26 ?_
     refine bselT hb26 ?_
     refine bselT hb26 ?_
     refine bselT hb26 ?_
     refine bselT hb26 ?_
     refine A13 _ _ ?_
     exact jn ⟨_,sj h24⟩ []
    refine bselF hb26 ?_
    refine bselF hb26 ?_
    refine bselF hb26 ?_
    refine bselF hb26 ?_
    refine bselF hb26 ?_
    refine bselM h24 (fun hb27 h24=>?_) (fun hb27 h24=>?_)
    ·refine bselT hb27 ?_
     refine bselT hb27 ?_
     refine bselT hb27 ?_
     refine bselT hb27 ?_
     refine bselT hb27 ?_
     refine A13 _ _ ?_
     exact jn ⟨_,sj h24⟩ []
    refine bselF hb27 ?_
    refine bselF hb27 ?_
    refine bselF hb27 ?_
    refine bselF hb27 ?_
    refine bselF hb27 ?_
    refine bselM h24 (fun hb28 h24=>?_) (fun hb28 h24=>?_)
    ·refine bselT hb28 ?_
     refine bselT hb28 ?_
     refine bselT hb28 ?_
     refine bselT hb28 ?_
     refine bselT hb28 ?_
     refine bselT hb28 ?_
     refine bselT hb28 ?_
     refine A13 _ _ ?_
     exact jn ⟨_,sj h24⟩ []
    refine bselF hb28 ?_
    refine bselF hb28 ?_
    refine lenM (fun _=>?_)
    refine bselF hb28 ?_
    refine bselF hb28 ?_
    refine bselF hb28 ?_
    refine lenM (fun _=>?_)
    refine bselF hb28 ?_
    refine bselF hb28 ?_
    refine A13 _ _ ?_
    exact jn ⟨_,sj h24⟩ []
   rintro ⟨v23,hv_⟩
   replace hv_:=hv_.symm
   subst hv_
   refine A12 _ _ ?_
   refine goc hn ?_
   refine bselM h14 (fun hb31 h14=>?_) (fun hb31 h14=>?_)
   ·refine gos hn ?_
    refine got hn ?_
    refine R11 _ _ ?_
    refine R10 _ _ ?_
    refine R9 _ _ ?_
    refine R6 _ _ ?_
    refine R5 _ _ ?_
    refine R4 _ _ ?_
    refine R3 _ _ ?_
    obtain rfl:=Option.some.inj h14
    obtain rfl:=Option.some.inj h
    exact ⟨[],_,fm⟩
   refine gok hn ?_
   refine A11 _ _ ?_
   refine gos hn ?_
   refine lenM (fun hl32=>?_)
   obtain ⟨o34,h35,h14⟩:=bindM h14
   refine jk (ι:={ s // o34=Ctl.next s }) hn (fun s=>[]) (fun s=>[]) [(2,_),(3,_),(38,_),(39,_),(40,_)] [(2,_),(3,_)] (fun _ A14 _ R14=>?_) ?_
   ·refine COk.blkQ fun _ _ E15 _ R15=>?_
    refine lq (ι:={ q:((List Me)×Nat) // q.1=x18.methods.drop q.2∧qcref1_SameWorld_l2 N x21 q.1 q.2=some o34 }) hn (fun q=>[(81,.int (q.1.2:Int))]) (fun q=>[]) (fun q=>q.1.1.length) [(2,_),(3,_),(7,_),(38,_),(39,_),(40,_),(79,_),(80,_)] [(2,_),(3,_),(7,_)] ⟨(x18.methods,0),rfl,h35⟩ [] ?_
    rintro ⟨⟨rest_,k33⟩,hd37,h35⟩ _ A16 X16 R16
    replace hd37:rest_=x18.methods.drop k33:=hd37
    rcases rest_ with _|⟨x39,rest36⟩
    ·have hlt41:=restNil hd37
     replace h35:=(qcref1_SameWorld_l2.eq_1 _ _ _).symm.trans h35
     refine gos hn ?_
     refine COk.seqQ fun _ _ X17 _=>?_
     refine goc hn ?_
     refine bselF hlt41 ?_
     refine goe hn ?_
     refine X17 _ _ _ ?_
     refine X16 _ _ _ ?_
     refine E15 _ _ ?_
     refine A14 _ _ ?_
     exact jn ⟨_,sj h35⟩ []
    ·obtain ⟨hx40,hd2,hlt41⟩:=restCons hd37
     replace h35:=(qcref1_SameWorld_l2.eq_2 _ _ _ _ _).symm.trans h35
     refine gos hn ?_
     refine COk.seqQ fun _ A18 _ _=>?_
     refine goc hn ?_
     refine bselT hlt41 ?_
     refine gok hn ?_
     refine A18 _ _ ?_
     refine COk.seqQ fun _ A19 _ R19=>?_
     refine COk.blkQ fun _ A20 _ _ R20=>?_
     refine gos hn ?_
     refine idxK hx40 ?_
     refine gos hn ?_
     obtain ⟨x42,hx43,h35⟩:=bindM h35
     refine idxM hx43 ?_
     refine COk.seqQ fun _ A21 _ _=>?_
     obtain ⟨o46,h45,h35⟩:=bindM h35
     refine jk (ι:={ s // o46=s }) hn (fun s=>[(124,.bool s.1)]) (fun s=>[]) [(2,_),(3,_),(7,_),(38,_),(39,_),(40,_),(79,_),(80,_),(81,_)] [(2,_),(3,_),(7,_)] (fun _ A22 _ _=>?_) ?_
     ·refine kp [(2,_),(3,_),(7,_),(9,_),(10,_),(38,_),(39,_),(40,_),(79,_),(80,_),(81,_)] [(2,_),(3,_),(7,_),(9,_),(10,_)] ?_
      refine gor hn ?_
      refine bselM h45 (fun hb47 h45=>?_) (fun hb47 h45=>?_)
      ·refine bselT hb47 ?_
       refine bselT hb47 ?_
       refine bselT hb47 ?_
       refine bselT hb47 ?_
       refine bselT hb47 ?_
       refine A22 _ _ ?_
       exact jn ⟨_,sj h45⟩ []
      refine bselF hb47 ?_
      refine bselF hb47 ?_
      refine bselF hb47 ?_
      refine bselF hb47 ?_
      refine bselF hb47 ?_
      refine bselM h45 (fun hb48 h45=>?_) (fun hb48 h45=>?_)
      ·refine bselT hb48 ?_
       refine bselT hb48 ?_
       refine bselT hb48 ?_
       refine bselT hb48 ?_
       refine bselT hb48 ?_
       refine A22 _ _ ?_
       exact jn ⟨_,sj h45⟩ []
      refine bselF hb48 ?_
      refine bselF hb48 ?_
      refine bselF hb48 ?_
      refine bselF hb48 ?_
      refine bselF hb48 ?_
      refine bselM h45 (fun hb49 h45=>?_) (fun hb49 h45=>?_)
      ·refine bselT hb49 ?_
       refine bselT hb49 ?_
       refine bselT hb49 ?_
       refine bselT hb49 ?_
       refine bselT hb49 ?_
       refine A22 _ _ ?_
       exact jn ⟨_,sj h45⟩ []
      refine bselF hb49 ?_
      refine bselF hb49 ?_
      refine bselF hb49 ?_
      refine bselF hb49 ?_
      refine bselF hb49 ?_
      refine bselM h45 (fun hb50 h45=>?_) (fun hb50 h45=>?_)
      ·refine bselT hb50 ?_
       refine bselT hb50 ?_
       refine bselT hb50 ?_
       refine bselT hb50 ?_
       refine bselT hb50 ?_
       refine bselT hb50 ?_
       refine A22 _ _ ?_
       exact jn ⟨_,sj h45⟩ []
      refine bselF hb50 ?_
      refine bselF hb50 ?_
      refine bselF hb50 ?_
      refine bselF hb50 ?_
      obtain ⟨r51,hr52,h45⟩:=bindM h45
      show CallOk Try.prog _ _ _ _
      refine cA (qcref1_SameCode_ok N x39.code x42.code r51 hr52) ?_
      refine bselF hb50 ?_
      refine bselF hb50 ?_
      refine A22 _ _ ?_
      exact jn ⟨_,sj h45⟩ []
     rintro ⟨v44,hv_⟩
     replace hv_:=hv_.symm
     subst hv_
     refine A21 _ _ ?_
     refine goc hn ?_
     refine bselM h35 (fun hb53 h35=>?_) (fun hb53 h35=>?_)
     ·refine gos hn ?_
      refine got hn ?_
      refine R20 _ _ ?_
      refine R19 _ _ ?_
      refine R16 _ _ ?_
      refine R15 _ _ ?_
      refine R14 _ _ ?_
      refine R10 _ _ ?_
      refine R9 _ _ ?_
      refine R6 _ _ ?_
      refine R5 _ _ ?_
      refine R4 _ _ ?_
      refine R3 _ _ ?_
      obtain rfl:=Option.some.inj h35
      obtain rfl:=Option.some.inj h14
      obtain rfl:=Option.some.inj h
      exact ⟨[],_,fm⟩
     refine gok hn ?_
     refine A20 _ _ ?_
     refine A19 _ _ ?_
     refine gor hn ?_
     refine Or.inl (And.intro (inrK hx40 hl32) ?_)
     refine A16 _ _ ?_
     exact jn ⟨(rest36,k33+1),hd2,h35⟩ [] (by show rest36.length < rest36.length+1; omega)
   rintro ⟨⟨⟩,rfl⟩
   refine A10 _ _ ?_
   refine A9 _ _ ?_
   refine gor hn ?_
   refine Or.inl (And.intro (inrK hx19 hl11) ?_)
   refine A6 _ _ ?_
   exact jn ⟨(rest15,k12+1),hd2,h14⟩ [] (by show rest15.length < rest15.length+1; omega)
 rintro ⟨⟨⟩,rfl⟩
 refine A3 _ _ ?_
 refine COk.seqQ fun _ A23 _ R23=>?_
 refine gos hn ?_
 refine lenM (fun hl54=>?_)
 obtain ⟨o56,h57,h⟩:=bindM h
 refine jk (ι:={ s // o56=Ctl.next s }) hn (fun s=>[]) (fun s=>[]) [] [] (fun _ A24 _ R24=>?_) ?_
 ·refine COk.blkQ fun _ _ E25 _ R25=>?_
  refine lq (ι:={ q:((List Ob)×Nat) // q.1=a0.heap.drop q.2∧qcref1_SameWorld_l3 N a1 q.1 q.2=some o56 }) hn (fun q=>[(130,.int (q.1.2:Int))]) (fun q=>[]) (fun q=>q.1.1.length) [(3,_),(128,_),(129,_)] [(3,_)] ⟨(a0.heap,0),rfl,h57⟩ [] ?_
  rintro ⟨⟨rest_,k55⟩,hd59,h57⟩ _ A26 X26 R26
  replace hd59:rest_=a0.heap.drop k55:=hd59
  rcases rest_ with _|⟨x61,rest58⟩
  ·have hlt63:=restNil hd59
   replace h57:=(qcref1_SameWorld_l3.eq_1 _ _ _).symm.trans h57
   refine gos hn ?_
   refine COk.seqQ fun _ _ X27 _=>?_
   refine goc hn ?_
   refine bselF hlt63 ?_
   refine goe hn ?_
   refine X27 _ _ _ ?_
   refine X26 _ _ _ ?_
   refine E25 _ _ ?_
   refine A24 _ _ ?_
   exact jn ⟨_,sj h57⟩ []
  ·obtain ⟨hx62,hd2,hlt63⟩:=restCons hd59
   replace h57:=(qcref1_SameWorld_l3.eq_2 _ _ _ _ _).symm.trans h57
   refine gos hn ?_
   refine COk.seqQ fun _ A28 _ _=>?_
   refine goc hn ?_
   refine bselT hlt63 ?_
   refine gok hn ?_
   refine A28 _ _ ?_
   refine COk.seqQ fun _ A29 _ R29=>?_
   refine COk.blkQ fun _ A30 _ _ R30=>?_
   refine gos hn ?_
   refine idxK hx62 ?_
   refine COk.seqQ fun _ A31 _ R31=>?_
   refine COk.seqQ fun _ A32 _ _=>?_
   obtain ⟨o66,h65,h57⟩:=bindM h57
   refine jk (ι:={ s // o66=s }) hn (fun s=>[(156,.bool s.1)]) (fun s=>[]) [(3,_),(11,_),(12,_),(128,_),(129,_),(130,_)] [(3,_),(12,_)] (fun _ A33 _ _=>?_) ?_
   ·refine kp [(3,_),(11,_),(12,_),(128,_),(129,_),(130,_)] [(3,_),(12,_)] ?_
    refine god hn (by kernel_rfl) ?_
    obtain ⟨x67,hx68,h65⟩:=bindM h65
    refine idxM hx68 ?_
    refine bselM h65 (fun hb69 h65=>?_) (fun hb69 h65=>?_)
    ·refine bselT hb69 ?_
     refine bselT hb69 ?_
     refine bselT hb69 ?_
     refine bselT hb69 ?_
     refine bselT hb69 ?_
     refine bselT hb69 ?_
     refine bselT hb69 ?_
     refine bselT hb69 ?_
     refine bselT hb69 ?_
     refine bselT hb69 ?_
     refine bselT hb69 ?_
     refine A33 _ _ ?_
     exact jn ⟨_,sj h65⟩ []
    refine bselF hb69 ?_
    refine bselF hb69 ?_
    refine lenM (fun _=>?_)
    refine bselF hb69 ?_
    refine bselF hb69 ?_
    refine bselF hb69 ?_
    refine bselF hb69 ?_
    obtain ⟨x71,hx72,h65⟩:=bindM h65
    refine idxM hx72 ?_
    refine bselF hb69 ?_
    refine bselF hb69 ?_
    refine bselF hb69 ?_
    refine lenM (fun _=>?_)
    refine bselF hb69 ?_
    refine bselF hb69 ?_
    refine A33 _ _ ?_
    exact jn ⟨_,sj h65⟩ []
   rintro ⟨v64,hv_⟩
   replace hv_:=hv_.symm
   subst hv_
   refine A32 _ _ ?_
   refine goc hn ?_
   refine bselM h57 (fun hb74 h57=>?_) (fun hb74 h57=>?_)
   ·refine gos hn ?_
    refine got hn ?_
    refine R31 _ _ ?_
    refine R30 _ _ ?_
    refine R29 _ _ ?_
    refine R26 _ _ ?_
    refine R25 _ _ ?_
    refine R24 _ _ ?_
    refine R23 _ _ ?_
    obtain rfl:=Option.some.inj h57
    obtain rfl:=Option.some.inj h
    exact ⟨[],_,fm⟩
   refine gok hn ?_
   refine A31 _ _ ?_
   refine gos hn ?_
   refine lenM (fun hl75=>?_)
   obtain ⟨o77,h78,h57⟩:=bindM h57
   refine jk (ι:={ s // o77=Ctl.next s }) hn (fun s=>[]) (fun s=>[]) [(3,_),(128,_),(129,_),(130,_)] [(3,_)] (fun _ A34 _ R34=>?_) ?_
   ·refine COk.blkQ fun _ _ E35 _ R35=>?_
    refine lq (ι:={ q:((List V)×Nat) // q.1=x61.slots.drop q.2∧qcref1_SameWorld_l4 N a1 k55 q.1 q.2=some o77 }) hn (fun q=>[(160,.int (q.1.2:Int))]) (fun q=>[]) (fun q=>q.1.1.length) [(3,_),(11,_),(12,_),(128,_),(129,_),(130,_),(159,_)] [(3,_),(12,_)] ⟨(x61.slots,0),rfl,h78⟩ [] ?_
    rintro ⟨⟨rest_,k76⟩,hd80,h78⟩ _ A36 X36 R36
    replace hd80:rest_=x61.slots.drop k76:=hd80
    rcases rest_ with _|⟨x82,rest79⟩
    ·have hlt84:=restNil hd80
     replace h78:=(qcref1_SameWorld_l4.eq_1 _ _ _ _).symm.trans h78
     refine gos hn ?_
     refine COk.seqQ fun _ _ X37 _=>?_
     refine goc hn ?_
     refine bselF hlt84 ?_
     refine goe hn ?_
     refine X37 _ _ _ ?_
     refine X36 _ _ _ ?_
     refine E35 _ _ ?_
     refine A34 _ _ ?_
     exact jn ⟨_,sj h78⟩ []
    ·obtain ⟨hx83,hd2,hlt84⟩:=restCons hd80
     replace h78:=(qcref1_SameWorld_l4.eq_2 _ _ _ _ _ _).symm.trans h78
     refine gos hn ?_
     refine COk.seqQ fun _ A38 _ _=>?_
     refine goc hn ?_
     refine bselT hlt84 ?_
     refine gok hn ?_
     refine A38 _ _ ?_
     refine COk.seqQ fun _ A39 _ R39=>?_
     refine COk.blkQ fun _ A40 _ _ R40=>?_
     refine gos hn ?_
     refine COk.seqQ fun _ A41 _ _=>?_
     refine god hn (by kernel_rfl) ?_
     refine idxK hx83 ?_
     obtain ⟨x85,hx86,h78⟩:=bindM h78
     refine idxM hx86 ?_
     obtain ⟨x87,hx88,h78⟩:=bindM h78
     refine idxM hx88 ?_
     refine A41 _ _ ?_
     refine goc hn ?_
     refine bselM h78 (fun hb89 h78=>?_) (fun hb89 h78=>?_)
     ·refine kp [] [] ?_
      refine gos hn ?_
      refine got hn ?_
      refine R40 _ _ ?_
      refine R39 _ _ ?_
      refine R36 _ _ ?_
      refine R35 _ _ ?_
      refine R34 _ _ ?_
      refine R30 _ _ ?_
      refine R29 _ _ ?_
      refine R26 _ _ ?_
      refine R25 _ _ ?_
      refine R24 _ _ ?_
      refine R23 _ _ ?_
      obtain rfl:=Option.some.inj h78
      obtain rfl:=Option.some.inj h57
      obtain rfl:=Option.some.inj h
      exact ⟨[],_,fm⟩
     refine gok hn ?_
     refine A40 _ _ ?_
     refine A39 _ _ ?_
     refine kp [(3,_),(11,_),(12,_),(128,_),(129,_),(130,_),(159,_),(160,_)] [(3,_),(12,_)] ?_
     refine gor hn ?_
     refine Or.inl (And.intro (inrK hx83 hl75) ?_)
     refine A36 _ _ ?_
     exact jn ⟨(rest79,k76+1),hd2,h78⟩ [] (by show rest79.length < rest79.length+1; omega)
   rintro ⟨⟨⟩,rfl⟩
   refine A30 _ _ ?_
   refine A29 _ _ ?_
   refine gor hn ?_
   refine Or.inl (And.intro (inrK hx62 hl54) ?_)
   refine A26 _ _ ?_
   exact jn ⟨(rest58,k55+1),hd2,h57⟩ [] (by show rest58.length < rest58.length+1; omega)
 rintro ⟨⟨⟩,rfl⟩
 refine A23 _ _ ?_
 refine gos hn ?_
 refine got hn ?_
 obtain rfl:=Option.some.inj h
 exact ⟨[],_,fm⟩

/- qclaw5.num -/
set_option maxRecDepth 100000 in
set_option maxHeartbeats 8000000 in
theorem qclaw5_num_ok (N:Nat) (a0:Int) (r:V) (h:qclaw5_num N a0=some r):Spec Try.prog 50 [] [.int a0] (.agg (eV r)) [] []:=by
 refine Spec.of tabOk Try.func50 rfl Try.ntmps50 (by kernel_rfl) rfl rfl rfl fun Γ hn=>?_
 unfold qclaw5_num at h
 refine gos hn ?_
 refine gos hn ?_
 refine got hn ?_
 obtain rfl:=Option.some.inj h
 exact ⟨[],_,fm⟩

/- qclaw5.alive -/
set_option maxRecDepth 100000 in
set_option maxHeartbeats 8000000 in
theorem qclaw5_alive_ok (N:Nat) (r:Bool) (h:qclaw5_alive N =some r):Spec Try.prog 19 [] [] (.bool r) [] []:=by
 refine Spec.of tabOk Try.func19 rfl Try.ntmps19 (by kernel_rfl) rfl rfl rfl fun Γ hn=>?_
 unfold qclaw5_alive at h
 refine gos hn ?_
 refine gos hn ?_
 obtain ⟨r1,hr2,h⟩:=bindM h
 show CallOk Try.prog _ _ _ _
 refine cA (qcref1_New_ok N  r1 hr2) ?_
 obtain ⟨r3,hr4,h⟩:=bindM h
 show CallOk Try.prog _ _ _ _
 refine cA (qclaw5_num_ok N (2:Int) r3 hr4) ?_
 obtain ⟨r5,hr6,h⟩:=bindM h
 show CallOk Try.prog _ _ _ _
 refine cA (qclaw5_num_ok N (3:Int) r5 hr6) ?_
 refine Exists.intro (List.map eV [r5]) (And.intro (by repeat (first|exact trivial|exact rfl|(refine And.intro ?_ ?_))) ?_)
 obtain ⟨r7,hr8,h⟩:=bindM h
 show CallOk Try.prog _ _ _ _
 refine cF (run_Plain_ok N r1 (⟨r3,(⟨#[43]⟩:ByteArray),[r5]⟩:TCall) (5:Int) r7 hr8) ?_
 refine gos hn ?_
 obtain ⟨r9,hr10,h⟩:=bindM h
 show CallOk Try.prog _ _ _ _
 refine cA (qcref1_New_ok N  r9 hr10) ?_
 obtain ⟨r11,hr12,h⟩:=bindM h
 show CallOk Try.prog _ _ _ _
 refine cA (qclaw5_num_ok N (2:Int) r11 hr12) ?_
 obtain ⟨r13,hr14,h⟩:=bindM h
 show CallOk Try.prog _ _ _ _
 refine cA (run_Plain_ok N r9 (⟨r11,(⟨#[110,111,112,101]⟩:ByteArray),[]⟩:TCall) (5:Int) r13 hr14) ?_
 refine kp [(1,_),(2,_),(4,_)] [(1,_),(2,_),(4,_)] ?_
 refine gos hn ?_
 obtain ⟨r15,hr16,h⟩:=bindM h
 show CallOk Try.prog _ _ _ _
 refine cA (run_None_ok N (0:Int) (0:Int) r15 hr16) ?_
 refine COk.seqQ fun _ A0 _ _=>?_
 obtain ⟨o19,h18,h⟩:=bindM h
 refine jk (ι:={ s // o19=s }) hn (fun s=>[(0,.bool s.1)]) (fun s=>[]) [] [] (fun _ A1 _ _=>?_) ?_
 ·refine kp [(1,_),(2,_),(4,_),(6,_)] [(1,_),(2,_),(4,_)] ?_
  refine god hn (by kernel_rfl) ?_
  obtain ⟨r20,hr21,h18⟩:=bindM h18
  show CallOk Try.prog _ _ _ _
  refine cA (qclaw5_num_ok N (5:Int) r20 hr21) ?_
  refine bselM h18 (fun hb22 h18=>?_) (fun hb22 h18=>?_)
  ·refine bselT hb22 ?_
   refine bselT hb22 ?_
   refine lenM (fun _=>?_)
   refine bselT hb22 ?_
   refine bselT hb22 ?_
   refine bselM h18 (fun hb24 h18=>?_) (fun hb24 h18=>?_)
   ·refine bselT hb24 ?_
    refine bselT hb24 ?_
    refine bselT hb24 ?_
    refine bselM h18 (fun hb25 h18=>?_) (fun hb25 h18=>?_)
    ·refine bselT hb25 ?_
     refine bselT hb25 ?_
     refine bselM h18 (fun hb26 h18=>?_) (fun hb26 h18=>?_)
     ·refine bselT hb26 ?_
      refine bselT hb26 ?_
      obtain ⟨r27,hr28,h18⟩:=bindM h18
      show CallOk Try.prog _ _ _ _
      refine cA (run_Wrong_ok N r7.1 (⟨(⟨(0:Int),(0:Int)⟩:V),ByteArray.empty,[]⟩:TCall) (0:Int) r27 hr28) ?_
      refine bselT hb26 ?_
      refine bselT hb26 ?_
      refine A1 _ _ ?_
      exact jn ⟨_,sj h18⟩ []
     refine bselF hb26 ?_
     refine bselF hb26 ?_
     refine bselF hb26 ?_
     refine bselF hb26 ?_
     refine A1 _ _ ?_
     exact jn ⟨_,sj h18⟩ []
    refine bselF hb25 ?_
    refine bselF hb25 ?_
    refine A1 _ _ ?_
    exact jn ⟨_,sj h18⟩ []
   refine bselF hb24 ?_
   refine bselF hb24 ?_
   refine bselF hb24 ?_
   refine A1 _ _ ?_
   exact jn ⟨_,sj h18⟩ []
  refine bselF hb22 ?_
  refine bselF hb22 ?_
  refine bselF hb22 ?_
  refine bselF hb22 ?_
  refine A1 _ _ ?_
  exact jn ⟨_,sj h18⟩ []
 rintro ⟨v17,hv_⟩
 replace hv_:=hv_.symm
 subst hv_
 refine A0 _ _ ?_
 refine got hn ?_
 obtain rfl:=Option.some.inj h
 exact ⟨[],_,fm⟩

/- qclaw5.RunRight -/
set_option maxRecDepth 100000 in
set_option maxHeartbeats 8000000 in
theorem qclaw5_RunRight_ok (N:Nat) (a0:Wd) (a1:TCall) (a2:Int) (r:Bool) (h:qclaw5_RunRight N a0 a1 a2=some r):Spec Try.prog 6 [] [.agg (eWd a0),.agg (eTCall a1),.int a2] (.bool r) [] []:=by
 refine Spec.of tabOk Try.func6 rfl Try.ntmps6 (by kernel_rfl) rfl rfl rfl fun Γ hn=>?_
 unfold qclaw5_RunRight at h
 refine gos hn ?_
 refine COk.seqQ fun _ A0 _ R0=>?_
 refine gos hn ?_
 obtain ⟨r1,hr2,h⟩:=bindM h
 show CallOk Try.prog _ _ _ _
 refine cA (qclaw5_alive_ok N  r1 hr2) ?_
 refine goc hn ?_
 refine bselM h (fun hb3 h=>?_) (fun hb3 h=>?_)
 ·refine gos hn ?_
  refine got hn ?_
  refine R0 _ _ ?_
  obtain rfl:=Option.some.inj h
  exact ⟨[],_,fm⟩
 refine gok hn ?_
 refine A0 _ _ ?_
 refine COk.seqQ fun _ A1 _ R1=>?_
 refine gos hn ?_
 obtain ⟨r4,hr5,h⟩:=bindM h
 show CallOk Try.prog _ _ _ _
 refine cA (qcref1_Right_ok N a0 r4 hr5) ?_
 refine goc hn ?_
 refine bselM h (fun hb6 h=>?_) (fun hb6 h=>?_)
 ·refine gos hn ?_
  refine got hn ?_
  refine R1 _ _ ?_
  obtain rfl:=Option.some.inj h
  exact ⟨[],_,fm⟩
 refine gok hn ?_
 refine A1 _ _ ?_
 refine gos hn ?_
 obtain ⟨r7,hr8,h⟩:=bindM h
 show CallOk Try.prog _ _ _ _
 refine cA (run_Plain_ok N a0 a1 a2 r7 hr8) ?_
 refine kp [(3,_),(7,_),(8,_)] [(3,_),(7,_),(8,_)] ?_
 refine gos hn ?_
 refine gos hn ?_
 refine COk.seqQ fun _ A2 _ _=>?_
 obtain ⟨o11,h10,h⟩:=bindM h
 refine jk (ι:={ s // o11=s }) hn (fun s=>[(6,.bool s.1)]) (fun s=>[]) [] [] (fun _ A3 _ _=>?_) ?_
 ·refine gor hn ?_
  obtain ⟨r12,hr13,h10⟩:=bindM h10
  show CallOk Try.prog _ _ _ _
  refine cA (qcref1_Right_ok N r7.1 r12 hr13) ?_
  refine bselM h10 (fun hb14 h10=>?_) (fun hb14 h10=>?_)
  ·refine bselT hb14 ?_
   refine bselT hb14 ?_
   refine bselT hb14 ?_
   refine bselT hb14 ?_
   refine lenM (fun _=>?_)
   refine bselT hb14 ?_
   obtain ⟨r16,hr17,h10⟩:=bindM h10
   show CallOk Try.prog _ _ _ _
   refine cA (qcref1_Wrong_ok N r7.2.value (r7.1.heap.length:Int) r16 hr17) ?_
   refine bselT hb14 ?_
   refine bselT hb14 ?_
   refine bselM h10 (fun hb18 h10=>?_) (fun hb18 h10=>?_)
   ·refine bselT hb18 ?_
    refine bselT hb18 ?_
    obtain ⟨r19,hr20,h10⟩:=bindM h10
    show CallOk Try.prog _ _ _ _
    refine cA (qcref1_SameWorld_ok N (⟨r7.1.classes,a0.heap,r7.1.epoch⟩:Wd) a0 r19 hr20) ?_
    refine bselT hb18 ?_
    refine A3 _ _ ?_
    exact jn ⟨_,sj h10⟩ []
   refine bselF hb18 ?_
   refine bselF hb18 ?_
   refine bselF hb18 ?_
   refine A3 _ _ ?_
   exact jn ⟨_,sj h10⟩ []
  refine bselF hb14 ?_
  refine bselF hb14 ?_
  refine bselF hb14 ?_
  refine bselF hb14 ?_
  refine bselF hb14 ?_
  refine bselF hb14 ?_
  refine bselF hb14 ?_
  refine A3 _ _ ?_
  exact jn ⟨_,sj h10⟩ []
 rintro ⟨v9,hv_⟩
 replace hv_:=hv_.symm
 subst hv_
 refine A2 _ _ ?_
 refine got hn ?_
 obtain rfl:=Option.some.inj h
 exact ⟨[],_,fm⟩
end Go.Proofs.Ytkecefjmcimemaa
