/- Walks after the mirrors. Printed by mir.py. -/
import Derived.Test.YtibjcppjfkamhaaGreatDoorMir
import Derived.Test.YtibjcppjfkamhaaGreatDoorYsh
import Derived.Test.YtibjcppjfkamhaaGreatDoorYins
import Derived.Test.YtibjcppjfkamhaaGreatDoorYcnew
namespace Go.Proofs.YtibjcppjfkamhaaGreatDoor
open Go.RowKit
set_option linter.unusedVariables false
set_option maxHeartbeats 8000000
set_option maxRecDepth 100000
theorem J6 (N:Nat) (a0:Int) (r:V) (h:M3 N a0=some r):Spec Tryz.prog 16 [] [.int a0] (.agg (eV r)) [] []:=by
 refine Spec.of u7 Tryz.func16 rfl Tryz.ntmps16 (by kernel_rfl) rfl rfl rfl fun Γ hn=>?_;unfold M3 at h;refine j6 hn ?_;refine j6 hn ?_;refine got hn ?_;obtain rfl:=oI h;exact ⟨[],_,fm⟩

theorem O4 (N:Nat) (a0:Int) (a1:V) (a2:ByteArray) (a3:(List V)) (r:J7) (h:O5 N a0 a1 a2 a3=some r):Spec Tryz.prog 14 [] [.int a0,.agg (eV a1),.str a2,.sl 2 (List.map eV a3)] (.agg (aR0 r)) [] []:=by
 refine Spec.of u7 Tryz.func14 rfl Tryz.ntmps14 (by kernel_rfl) rfl rfl rfl fun Γ hn=>?_;unfold O5 at h;refine j6 hn ?_;refine j6 hn ?_;refine got hn ?_;obtain rfl:=oI h;exact ⟨[],_,fm⟩

theorem b30 (N:Nat) (r:y8) (h:aX5 N =some r):Spec Tryz.prog 30 [] [] (.agg (V8 r)) [] []:=by
 refine Spec.of u7 Tryz.func30 rfl Tryz.ntmps30 (by kernel_rfl) rfl rfl rfl fun Γ hn=>?_;unfold aX5 at h;refine j6 hn ?_;refine j6 hn ?_;obtain ⟨r1,hr2,h⟩:=j4 h;show l5 _ _ _ _ _;refine cA (bR3 N  r1 hr2) ?_;refine got hn ?_;obtain rfl:=oI h;exact ⟨[],_,fm⟩

theorem aA7 (N:Nat) (l:List V) (r:List V) (h:aM5 N l=some r):Spec Tryz.prog 121 [] [.sl 2 (List.map eV l)] (.own 0) [(0,.row 2 (List.map eV r) 29)] [0]:=by
  obtain ⟨hf,h⟩:=C8 h;obtain rfl:=oI h;refine Spec.of u7 Tryz.func121 rfl Tryz.ntmps121 (by kernel_rfl) rfl rfl rfl fun Γ hn=>?_;refine j6 hn ?_;refine j5.seq (j5.seq (j5.ops (goo hn 1 ?_)));refine OOk.gh (Gh.nil 3 rfl) ?_;rintro ⟨b,hb⟩;refine goo hn 1 (OOk.done ?_);(repeat (first|refine j6 hn ?_|refine q8 hn ?_|refine P7 hn ?_|refine l8 hn ?_|refine F8 hn ?_|refine q9 hn ?_|refine got hn ?_));refine bG8 (fun hb1=>?_) (fun hb1=>?_)
  · have e:l=[]:=by simpa using hb hb1
    subst e;refine j6 hn ?_;refine j5.nilrow 2 5 2 29 rfl rfl rfl ?_;(repeat (first|refine j6 hn ?_|refine q8 hn ?_|refine P7 hn ?_|refine l8 hn ?_|refine F8 hn ?_|refine q9 hn ?_|refine got hn ?_));exact ⟨[(0,5)],_,rfl,rfl,⟨rfl,trivial⟩,rfl,rfl,rfl,rfl,rfl⟩
  · (repeat (first|refine j6 hn ?_|refine q8 hn ?_|refine P7 hn ?_|refine l8 hn ?_|refine F8 hn ?_|refine q9 hn ?_|refine got hn ?_));refine Exists.intro [] (And.intro trivial ?_);refine And.intro (by have:=Nat.le_of_ble_eq_true hf; simpa using this) ?_;refine Exists.intro (List.map eV l) (And.intro (y9 _) ?_);(repeat (first|refine j6 hn ?_|refine q8 hn ?_|refine P7 hn ?_|refine l8 hn ?_|refine F8 hn ?_|refine q9 hn ?_|refine got hn ?_));exact ⟨[(0,7)],_,rfl,rfl,⟨rfl,trivial⟩,rfl,rfl,rfl,rfl,rfl⟩

theorem a01 (N:Nat) (a0:(List Ob)) (r:(List Ob)) (h:aZ0 N a0=some r):Spec Tryz.prog 92 [] [.sl 2 (List.map D8 a0)] (.own 0) [(0,.deep 2 92 [(1,(2,29))] (List.map D8 r) [] 1),(1,.gone)] [0,1]:=by
 refine Spec.of u7 Tryz.func92 rfl Tryz.ntmps92 (by kernel_rfl) rfl rfl rfl fun Γ hn=>?_;unfold aZ0 at h;refine j6 hn ?_;refine j6 hn ?_;refine j5.seqQ fun _ A0 _ _=>?_;refine j6 hn ?_;refine w9 (fun hl1=>?_);refine j5.nilrow 3 203 2 92 rfl rfl rfl ?_;refine j5.gh (Gh.toDeep 203 501 [(1,(2,29))] rfl rfl rfl rfl) (fun _=>?_);obtain ⟨o6,h7,h⟩:=j4 h;refine jk (ι:={ s // o6=s }) hn (fun s=>[]) (fun s=>[(203,.deep 2 92 [(1,(2,29))] (List.map D8 s.1) [] 501)]) [(3,_)] [(501,_)] (fun _ A1 _ _=>?_) ?_
 ·refine j5.blkQ fun _ _ E2 _ _=>?_;refine lq (ι:={ q:((List Ob)×Nat×(List Ob)) // q.1=a0.drop q.2.1∧aT4 N q.1 q.2.1 q.2.2=some o6 }) hn (fun q=>[(8,.int (q.1.2.1:Int))]) (fun q=>[(203,.deep 2 92 [(1,(2,29))] (List.map D8 q.1.2.2) [] 501)]) (fun q=>q.1.1.length) [(3,_),(6,_),(7,_)] [(501,_)] ⟨(a0,0,([]:List Ob)),rfl,h7⟩ [] ?_;rintro ⟨⟨rest_,k2,v3⟩,hd9,h7⟩ _ A3 X3 _;replace hd9:rest_=a0.drop k2:=hd9;rcases rest_ with _|⟨x11,rest8⟩
  ·have hlt13:=I8 hd9;replace h7:=(aT4.eq_1 _ _ _).symm.trans h7;refine j6 hn ?_;refine j5.seqQ fun _ _ X4 _=>?_;refine l8 hn ?_;refine d9 hlt13 ?_;refine F8 hn ?_;refine X4 _ _ _ ?_;refine X3 _ _ _ ?_;refine E2 _ _ ?_;refine A1 _ _ ?_;exact jn ⟨_,sj h7⟩ []
  ·obtain ⟨hx12,hd2,hlt13⟩:=H7 hd9;replace h7:=(aT4.eq_2 _ _ _ _ _).symm.trans h7;refine j6 hn ?_;refine j5.seqQ fun _ A5 _ _=>?_;refine l8 hn ?_;refine j3 hlt13 ?_;refine q9 hn ?_;refine A5 _ _ ?_;refine j5.seqQ fun _ A6 _ _=>?_;refine j5.blkQ fun _ A7 _ _ _=>?_;refine j6 hn ?_;refine Z4 hx12 ?_;refine j6 hn ?_;obtain ⟨r14,hr15,h7⟩:=j4 h7;show l5 _ _ _ _ _;refine cA ((aA7 N x11.slots r14 hr15).sw 0 14) ?_;refine q8 hn ?_;refine Or.inl ?_;refine Exists.intro [(1,(2,29))] (Exists.intro (D8 (⟨x11.cls,r14⟩:Ob)) (Exists.intro [(14,.row 2 (List.map eV r14) 29)] (And.intro rfl (And.intro rfl (And.intro rfl (And.intro (by decide) (And.intro (by decide) (And.intro rfl (And.intro rfl ?_)))))))));obtain ⟨hg16,h7⟩:=C8 h7;refine b44 (l2:=[(⟨x11.cls,r14⟩:Ob)]) hg16 rfl rfl rfl rfl rfl (by decide) (by decide) ?_;refine A7 _ _ ?_;refine A6 _ _ ?_;refine q8 hn ?_;refine Or.inl (And.intro (V7 hx12 hl1) ?_);refine A3 _ _ ?_;exact jn ⟨(rest8,k2+1,(v3++[(⟨x11.cls,r14⟩:Ob)])),hd2,h7⟩ [(203,19),(501,719)] (by show rest8.length < rest8.length+1; omega)
 rintro ⟨v5,hv_⟩;replace hv_:=hv_.symm;subst hv_;refine A0 _ _ ?_;refine j6 hn ?_;refine got hn ?_;obtain rfl:=oI h;exact ⟨[(0,203),(1,501)],_,fm⟩

theorem bP6 (N:Nat) (l:List Ins) (r:List Ins) (h:bD7 N l=some r):Spec Tryz.prog 122 [] [.sl 5 (List.map I6 l)] (.own 0) [(0,.row 5 (List.map I6 r) 55)] [0]:=by
  obtain ⟨hf,h⟩:=C8 h;obtain rfl:=oI h;refine Spec.of u7 Tryz.func122 rfl Tryz.ntmps122 (by kernel_rfl) rfl rfl rfl fun Γ hn=>?_;refine j6 hn ?_;refine j5.seq (j5.seq (j5.ops (goo hn 1 ?_)));refine OOk.gh (Gh.nil 3 rfl) ?_;rintro ⟨b,hb⟩;refine goo hn 1 (OOk.done ?_);(repeat (first|refine j6 hn ?_|refine q8 hn ?_|refine P7 hn ?_|refine l8 hn ?_|refine F8 hn ?_|refine q9 hn ?_|refine got hn ?_));refine bG8 (fun hb1=>?_) (fun hb1=>?_)
  · have e:l=[]:=by simpa using hb hb1
    subst e;refine j6 hn ?_;refine j5.nilrow 2 5 5 55 rfl rfl rfl ?_;(repeat (first|refine j6 hn ?_|refine q8 hn ?_|refine P7 hn ?_|refine l8 hn ?_|refine F8 hn ?_|refine q9 hn ?_|refine got hn ?_));exact ⟨[(0,5)],_,rfl,rfl,⟨rfl,trivial⟩,rfl,rfl,rfl,rfl,rfl⟩
  · (repeat (first|refine j6 hn ?_|refine q8 hn ?_|refine P7 hn ?_|refine l8 hn ?_|refine F8 hn ?_|refine q9 hn ?_|refine got hn ?_));refine Exists.intro [] (And.intro trivial ?_);refine And.intro (by have:=Nat.le_of_ble_eq_true hf; simpa using this) ?_;refine Exists.intro (List.map I6 l) (And.intro (y9 _) ?_);(repeat (first|refine j6 hn ?_|refine q8 hn ?_|refine P7 hn ?_|refine l8 hn ?_|refine F8 hn ?_|refine q9 hn ?_|refine got hn ?_));exact ⟨[(0,7)],_,rfl,rfl,⟨rfl,trivial⟩,rfl,rfl,rfl,rfl,rfl⟩

theorem aR9 (N:Nat) (a0:Me) (r:Me) (h:aN2 N a0=some r):Spec Tryz.prog 93 [] [.agg (J3 a0)] (.agg (J3 r)) [] []:=by
 refine Spec.of u7 Tryz.func93 rfl Tryz.ntmps93 (by kernel_rfl) rfl rfl rfl fun Γ hn=>?_;unfold aN2 at h;refine j6 hn ?_;refine j6 hn ?_;obtain ⟨r1,hr2,h⟩:=j4 h;show l5 _ _ _ _ _;refine cA ((bP6 N a0.code r1 hr2).sw 0 5) ?_;refine j6 hn ?_;refine j5.fzAll 5 rfl ?_;refine got hn ?_;obtain rfl:=oI h;exact ⟨[],_,fm⟩

theorem aB3 (N:Nat) (a0:Wd) (r:Wd) (h:aK8 N a0=some r):Spec Tryz.prog 60 [] [.agg (P6 a0)] (.agg [.sl 4 (List.map F4 r.classes),.own 0,.int r.epoch]) [(0,.deep 2 92 [(1,(2,29))] (List.map D8 r.heap) [] 1),(1,.gone)] [0,1]:=by
 refine Spec.of u7 Tryz.func60 rfl Tryz.ntmps60 (by kernel_rfl) rfl rfl rfl fun Γ hn=>?_;unfold aK8 at h;refine j6 hn ?_;refine j5.seqQ fun _ A0 _ _=>?_;refine C9 hn (by kernel_rfl) ?_;obtain ⟨r1,hr2,h⟩:=j4 h;show l5 _ _ _ _ _;refine cA (((a01 N a0.heap r1 hr2).sw 0 11).sw 1 711) ?_;refine A0 _ _ ?_;refine j5.seqQ fun _ A1 _ _=>?_;refine j6 hn ?_;refine w9 (fun hl3=>?_);refine j5.nilrowB 3 0 501 4 81 rfl rfl rfl rfl rfl rfl ?_;obtain ⟨o8,h9,h⟩:=j4 h;refine jk (ι:={ s // o8=s }) hn (fun s=>[]) (fun s=>[(501,.row 4 (List.map F4 s.1) 81)]) [(2,_),(3,_)] [(2,_),(3,_),(11,_),(711,_)] (fun _ A2 _ _=>?_) ?_
 ·refine j5.blkQ fun _ _ E3 _ _=>?_;refine lq (ι:={ q:((List Cl)×Nat×(List Cl)) // q.1=a0.classes.drop q.2.1∧aT0 N q.1 q.2.1 q.2.2=some o8 }) hn (fun q=>[(18,.int (q.1.2.1:Int))]) (fun q=>[(501,.row 4 (List.map F4 q.1.2.2) 81)]) (fun q=>q.1.1.length) [(2,_),(3,_),(16,_),(17,_)] [(2,_),(3,_),(11,_),(711,_)] ⟨(a0.classes,0,([]:List Cl)),rfl,h9⟩ [] ?_;rintro ⟨⟨rest_,k4,v5⟩,hd11,h9⟩ _ A4 X4 _;replace hd11:rest_=a0.classes.drop k4:=hd11;rcases rest_ with _|⟨x13,rest10⟩
  ·have hlt15:=I8 hd11;replace h9:=(aT0.eq_1 _ _ _).symm.trans h9;refine j6 hn ?_;refine j5.seqQ fun _ _ X5 _=>?_;refine l8 hn ?_;refine d9 hlt15 ?_;refine F8 hn ?_;refine X5 _ _ _ ?_;refine X4 _ _ _ ?_;refine E3 _ _ ?_;refine A2 _ _ ?_;exact jn ⟨_,sj h9⟩ []
  ·obtain ⟨hx14,hd2,hlt15⟩:=H7 hd11;replace h9:=(aT0.eq_2 _ _ _ _ _).symm.trans h9;refine j6 hn ?_;refine j5.seqQ fun _ A6 _ _=>?_;refine l8 hn ?_;refine j3 hlt15 ?_;refine q9 hn ?_;refine A6 _ _ ?_;refine j5.seqQ fun _ A7 _ _=>?_;refine j5.blkQ fun _ A8 _ _ _=>?_;refine j6 hn ?_;refine Z4 hx14 ?_;refine j6 hn ?_;refine j5.seqQ fun _ A9 _ _=>?_;refine j6 hn ?_;refine w9 (fun hl16=>?_);refine j5.nilrow 6 206 5 27 rfl rfl rfl ?_;obtain ⟨o21,h22,h9⟩:=j4 h9;refine jk (ι:={ s // o21=s }) hn (fun s=>[]) (fun s=>[(206,.row 5 (List.map J3 s.1) 27)]) [(2,_),(3,_),(5,_),(6,_),(16,_),(17,_),(18,_)] [(2,_),(3,_),(5,_),(11,_),(501,_),(711,_)] (fun _ A10 _ _=>?_) ?_
   ·refine j5.blkQ fun _ _ E11 _ _=>?_;refine lq (ι:={ q:((List Me)×Nat×(List Me)) // q.1=x13.methods.drop q.2.1∧aV1 N q.1 q.2.1 q.2.2=some o21 }) hn (fun q=>[(25,.int (q.1.2.1:Int))]) (fun q=>[(206,.row 5 (List.map J3 q.1.2.2) 27)]) (fun q=>q.1.1.length) [(2,_),(3,_),(5,_),(6,_),(16,_),(17,_),(18,_),(23,_),(24,_)] [(2,_),(3,_),(5,_),(11,_),(501,_),(711,_)] ⟨(x13.methods,0,([]:List Me)),rfl,h22⟩ [] ?_;rintro ⟨⟨rest_,k17,v18⟩,hd24,h22⟩ _ A12 X12 _;replace hd24:rest_=x13.methods.drop k17:=hd24;rcases rest_ with _|⟨x26,rest23⟩
    ·have hlt28:=I8 hd24;replace h22:=(aV1.eq_1 _ _ _).symm.trans h22;refine j6 hn ?_;refine j5.seqQ fun _ _ X13 _=>?_;refine l8 hn ?_;refine d9 hlt28 ?_;refine F8 hn ?_;refine X13 _ _ _ ?_;refine X12 _ _ _ ?_;refine E11 _ _ ?_;refine A10 _ _ ?_;exact jn ⟨_,sj h22⟩ []
    ·obtain ⟨hx27,hd2,hlt28⟩:=H7 hd24;replace h22:=(aV1.eq_2 _ _ _ _ _).symm.trans h22;refine j6 hn ?_;refine j5.seqQ fun _ A14 _ _=>?_;refine l8 hn ?_;refine j3 hlt28 ?_;refine q9 hn ?_;refine A14 _ _ ?_;refine j5.seqQ fun _ A15 _ _=>?_;refine j5.blkQ fun _ A16 _ _ _=>?_;refine j6 hn ?_;refine Z4 hx27 ?_;refine q8 hn ?_;obtain ⟨r29,hr30,h22⟩:=j4 h22;show l5 _ _ _ _ _;refine cA (aR9 N x26 r29 hr30) ?_;refine Exists.intro (List.map J3 [r29]) (And.intro aT ?_);obtain ⟨hg31,h22⟩:=C8 h22;refine Y2 (l2:=[r29]) hg31 (y9 _) ?_;refine A16 _ _ ?_;refine A15 _ _ ?_;refine kp [(2,_),(3,_),(5,_),(6,_),(16,_),(17,_),(18,_),(23,_),(24,_),(25,_)] [(2,_),(3,_),(5,_),(11,_),(33,_),(501,_),(711,_)] ?_;refine q8 hn ?_;refine Or.inl (And.intro (V7 hx27 hl16) ?_);refine A12 _ _ ?_;exact jn ⟨(rest23,k17+1,(v18++[r29])),hd2,h22⟩ [(206,33)] (by show rest23.length < rest23.length+1; omega)
   rintro ⟨v20,hv_⟩;replace hv_:=hv_.symm;subst hv_;refine A9 _ _ ?_;refine j6 hn ?_;refine q8 hn ?_;refine Or.inr ?_;refine Exists.intro (List.map F4 [(⟨x13.name,x13.super,x13.slots,v20⟩:Cl)]) (And.intro aT ?_);obtain ⟨hg32,h9⟩:=C8 h9;refine Y2 (l2:=[(⟨x13.name,x13.super,x13.slots,v20⟩:Cl)]) hg32 (y9 _) ?_;refine A8 _ _ ?_;refine A7 _ _ ?_;refine q8 hn ?_;refine Or.inl (And.intro (V7 hx14 hl3) ?_);refine A4 _ _ ?_;exact jn ⟨(rest10,k4+1,(v5++[(⟨x13.name,x13.super,x13.slots,v20⟩:Cl)])),hd2,h9⟩ [(501,41)] (by show rest10.length < rest10.length+1; omega)
 rintro ⟨v7,hv_⟩;replace hv_:=hv_.symm;subst hv_;refine A1 _ _ ?_;refine j6 hn ?_;refine j5.fzAll 501 rfl ?_;refine got hn ?_;obtain rfl:=oI h;exact ⟨[(0,11),(1,711)],_,fm⟩

theorem aK1 (N:Nat) (l:List Ln) (r:List Ln) (h:aD2 N l=some r):Spec Tryz.prog 94 [] [.sl 2 (List.map U0 l)] (.own 0) [(0,.row 2 (List.map U0 r) 167)] [0]:=by
  obtain ⟨hf,h⟩:=C8 h;obtain rfl:=oI h;refine Spec.of u7 Tryz.func94 rfl Tryz.ntmps94 (by kernel_rfl) rfl rfl rfl fun Γ hn=>?_;refine j6 hn ?_;refine j5.seq (j5.seq (j5.ops (goo hn 1 ?_)));refine OOk.gh (Gh.nil 3 rfl) ?_;rintro ⟨b,hb⟩;refine goo hn 1 (OOk.done ?_);(repeat (first|refine j6 hn ?_|refine q8 hn ?_|refine P7 hn ?_|refine l8 hn ?_|refine F8 hn ?_|refine q9 hn ?_|refine got hn ?_));refine bG8 (fun hb1=>?_) (fun hb1=>?_)
  · have e:l=[]:=by simpa using hb hb1
    subst e;refine j6 hn ?_;refine j5.nilrow 2 5 2 167 rfl rfl rfl ?_;(repeat (first|refine j6 hn ?_|refine q8 hn ?_|refine P7 hn ?_|refine l8 hn ?_|refine F8 hn ?_|refine q9 hn ?_|refine got hn ?_));exact ⟨[(0,5)],_,rfl,rfl,⟨rfl,trivial⟩,rfl,rfl,rfl,rfl,rfl⟩
  · (repeat (first|refine j6 hn ?_|refine q8 hn ?_|refine P7 hn ?_|refine l8 hn ?_|refine F8 hn ?_|refine q9 hn ?_|refine got hn ?_));refine Exists.intro [] (And.intro trivial ?_);refine And.intro (by have:=Nat.le_of_ble_eq_true hf; simpa using this) ?_;refine Exists.intro (List.map U0 l) (And.intro (y9 _) ?_);(repeat (first|refine j6 hn ?_|refine q8 hn ?_|refine P7 hn ?_|refine l8 hn ?_|refine F8 hn ?_|refine q9 hn ?_|refine got hn ?_));exact ⟨[(0,7)],_,rfl,rfl,⟨rfl,trivial⟩,rfl,rfl,rfl,rfl,rfl⟩

theorem a06 (N:Nat) (a0:(List Ce)) (r:(List Ce)) (h:aZ2 N a0=some r):Spec Tryz.prog 61 [] [.sl 6 (List.map eCe a0)] (.own 0) [(0,.row 6 (List.map eCe r) 159)] [0]:=by
 refine Spec.of u7 Tryz.func61 rfl Tryz.ntmps61 (by kernel_rfl) rfl rfl rfl fun Γ hn=>?_;unfold aZ2 at h;refine j6 hn ?_;refine j6 hn ?_;refine j5.seqQ fun _ A0 _ _=>?_;refine j6 hn ?_;refine w9 (fun hl1=>?_);refine j5.nilrow 3 203 6 159 rfl rfl rfl ?_;obtain ⟨o6,h7,h⟩:=j4 h;refine jk (ι:={ s // o6=s }) hn (fun s=>[]) (fun s=>[(203,.row 6 (List.map eCe s.1) 159)]) [(3,_)] [] (fun _ A1 _ _=>?_) ?_
 ·refine j5.blkQ fun _ _ E2 _ _=>?_;refine lq (ι:={ q:((List Ce)×Nat×(List Ce)) // q.1=a0.drop q.2.1∧aU1 N q.1 q.2.1 q.2.2=some o6 }) hn (fun q=>[(8,.int (q.1.2.1:Int))]) (fun q=>[(203,.row 6 (List.map eCe q.1.2.2) 159)]) (fun q=>q.1.1.length) [(3,_),(6,_),(7,_)] [] ⟨(a0,0,([]:List Ce)),rfl,h7⟩ [] ?_;rintro ⟨⟨rest_,k2,v3⟩,hd9,h7⟩ _ A3 X3 _;replace hd9:rest_=a0.drop k2:=hd9;rcases rest_ with _|⟨x11,rest8⟩
  ·have hlt13:=I8 hd9;replace h7:=(aU1.eq_1 _ _ _).symm.trans h7;refine j6 hn ?_;refine j5.seqQ fun _ _ X4 _=>?_;refine l8 hn ?_;refine d9 hlt13 ?_;refine F8 hn ?_;refine X4 _ _ _ ?_;refine X3 _ _ _ ?_;refine E2 _ _ ?_;refine A1 _ _ ?_;exact jn ⟨_,sj h7⟩ []
  ·obtain ⟨hx12,hd2,hlt13⟩:=H7 hd9;replace h7:=(aU1.eq_2 _ _ _ _ _).symm.trans h7;refine j6 hn ?_;refine j5.seqQ fun _ A5 _ _=>?_;refine l8 hn ?_;refine j3 hlt13 ?_;refine q9 hn ?_;refine A5 _ _ ?_;refine j5.seqQ fun _ A6 _ _=>?_;refine j5.blkQ fun _ A7 _ _ _=>?_;refine j6 hn ?_;refine Z4 hx12 ?_;refine j6 hn ?_;obtain ⟨r14,hr15,h7⟩:=j4 h7;show l5 _ _ _ _ _;refine cA ((aK1 N x11.lines r14 hr15).sw 0 14) ?_;refine q8 hn ?_;refine Exists.intro (List.map eCe [(⟨x11.site,x11.epoch,x11.many,r14⟩:Ce)]) (And.intro aT ?_);obtain ⟨hg16,h7⟩:=C8 h7;refine Y2 (l2:=[(⟨x11.site,x11.epoch,x11.many,r14⟩:Ce)]) hg16 (y9 _) ?_;refine A7 _ _ ?_;refine A6 _ _ ?_;refine q8 hn ?_;refine Or.inl (And.intro (V7 hx12 hl1) ?_);refine A3 _ _ ?_;exact jn ⟨(rest8,k2+1,(v3++[(⟨x11.site,x11.epoch,x11.many,r14⟩:Ce)])),hd2,h7⟩ [(203,19)] (by show rest8.length < rest8.length+1; omega)
 rintro ⟨v5,hv_⟩;replace hv_:=hv_.symm;subst hv_;refine A0 _ _ ?_;refine j6 hn ?_;refine got hn ?_;obtain rfl:=oI h;exact ⟨[(0,203)],_,fm⟩

theorem bR9 (N:Nat) (a0:(List Tl)) (r:(List Tl)) (h:bI4 N a0=some r):Spec Tryz.prog 62 [] [.sl 4 (List.map eTl a0)] (.own 0) [(0,.row 4 (List.map eTl r) 162)] [0]:=by
 refine Spec.of u7 Tryz.func62 rfl Tryz.ntmps62 (by kernel_rfl) rfl rfl rfl fun Γ hn=>?_;unfold bI4 at h;refine j6 hn ?_;refine j6 hn ?_;refine j5.seqQ fun _ A0 _ _=>?_;refine j6 hn ?_;refine w9 (fun hl1=>?_);refine j5.nilrow 3 203 4 162 rfl rfl rfl ?_;obtain ⟨o6,h7,h⟩:=j4 h;refine jk (ι:={ s // o6=s }) hn (fun s=>[]) (fun s=>[(203,.row 4 (List.map eTl s.1) 162)]) [(3,_)] [] (fun _ A1 _ _=>?_) ?_
 ·refine j5.blkQ fun _ _ E2 _ _=>?_;refine lq (ι:={ q:((List Tl)×Nat×(List Tl)) // q.1=a0.drop q.2.1∧aT6 N q.1 q.2.1 q.2.2=some o6 }) hn (fun q=>[(8,.int (q.1.2.1:Int))]) (fun q=>[(203,.row 4 (List.map eTl q.1.2.2) 162)]) (fun q=>q.1.1.length) [(3,_),(6,_),(7,_)] [] ⟨(a0,0,([]:List Tl)),rfl,h7⟩ [] ?_;rintro ⟨⟨rest_,k2,v3⟩,hd9,h7⟩ _ A3 X3 _;replace hd9:rest_=a0.drop k2:=hd9;rcases rest_ with _|⟨x11,rest8⟩
  ·have hlt13:=I8 hd9;replace h7:=(aT6.eq_1 _ _ _).symm.trans h7;refine j6 hn ?_;refine j5.seqQ fun _ _ X4 _=>?_;refine l8 hn ?_;refine d9 hlt13 ?_;refine F8 hn ?_;refine X4 _ _ _ ?_;refine X3 _ _ _ ?_;refine E2 _ _ ?_;refine A1 _ _ ?_;exact jn ⟨_,sj h7⟩ []
  ·obtain ⟨hx12,hd2,hlt13⟩:=H7 hd9;replace h7:=(aT6.eq_2 _ _ _ _ _).symm.trans h7;refine j6 hn ?_;refine j5.seqQ fun _ A5 _ _=>?_;refine l8 hn ?_;refine j3 hlt13 ?_;refine q9 hn ?_;refine A5 _ _ ?_;refine j5.seqQ fun _ A6 _ _=>?_;refine j5.blkQ fun _ A7 _ _ _=>?_;refine j6 hn ?_;refine Z4 hx12 ?_;refine j6 hn ?_;obtain ⟨r14,hr15,h7⟩:=j4 h7;show l5 _ _ _ _ _;refine cA ((aK1 N x11.classes r14 hr15).sw 0 14) ?_;refine q8 hn ?_;refine Exists.intro (List.map eTl [(⟨x11.site,r14⟩:Tl)]) (And.intro aT ?_);obtain ⟨hg16,h7⟩:=C8 h7;refine Y2 (l2:=[(⟨x11.site,r14⟩:Tl)]) hg16 (y9 _) ?_;refine A7 _ _ ?_;refine A6 _ _ ?_;refine q8 hn ?_;refine Or.inl (And.intro (V7 hx12 hl1) ?_);refine A3 _ _ ?_;exact jn ⟨(rest8,k2+1,(v3++[(⟨x11.site,r14⟩:Tl)])),hd2,h7⟩ [(203,19)] (by show rest8.length < rest8.length+1; omega)
 rintro ⟨v5,hv_⟩;replace hv_:=hv_.symm;subst hv_;refine A0 _ _ ?_;refine j6 hn ?_;refine got hn ?_;obtain rfl:=oI h;exact ⟨[(0,203)],_,fm⟩

theorem bP9 (N:Nat) (l:List Int) (r:List Int) (h:bE3 N l=some r):Spec Tryz.prog 63 [] [.sl 1 (List.map (eIk .u8) l)] (.own 0) [(0,.row 1 (List.map (eIk .u8) r) 5)] [0]:=by
  obtain ⟨hf,h⟩:=C8 h;obtain rfl:=oI h;refine Spec.of u7 Tryz.func63 rfl Tryz.ntmps63 (by kernel_rfl) rfl rfl rfl fun Γ hn=>?_;refine j6 hn ?_;refine j5.seq (j5.seq (j5.ops (goo hn 1 ?_)));refine OOk.gh (Gh.nil 3 rfl) ?_;rintro ⟨b,hb⟩;refine goo hn 1 (OOk.done ?_);(repeat (first|refine j6 hn ?_|refine q8 hn ?_|refine P7 hn ?_|refine l8 hn ?_|refine F8 hn ?_|refine q9 hn ?_|refine got hn ?_));refine bG8 (fun hb1=>?_) (fun hb1=>?_)
  · have e:l=[]:=by simpa using hb hb1
    subst e;refine j6 hn ?_;refine j5.nilrow 2 5 1 5 rfl rfl rfl ?_;(repeat (first|refine j6 hn ?_|refine q8 hn ?_|refine P7 hn ?_|refine l8 hn ?_|refine F8 hn ?_|refine q9 hn ?_|refine got hn ?_));exact ⟨[(0,5)],_,rfl,rfl,⟨rfl,trivial⟩,rfl,rfl,rfl,rfl,rfl⟩
  · (repeat (first|refine j6 hn ?_|refine q8 hn ?_|refine P7 hn ?_|refine l8 hn ?_|refine F8 hn ?_|refine q9 hn ?_|refine got hn ?_));refine Exists.intro [] (And.intro trivial ?_);refine And.intro (by have:=Nat.le_of_ble_eq_true hf; simpa using this) ?_;refine Exists.intro (List.map (eIk .u8) l) (And.intro (y9 _) ?_);(repeat (first|refine j6 hn ?_|refine q8 hn ?_|refine P7 hn ?_|refine l8 hn ?_|refine F8 hn ?_|refine q9 hn ?_|refine got hn ?_));exact ⟨[(0,7)],_,rfl,rfl,⟨rfl,trivial⟩,rfl,rfl,rfl,rfl,rfl⟩

theorem b26 (N:Nat) (a0:y8) (r:y8) (h:aH2 N a0=some r):Spec Tryz.prog 29 [] [.agg (V8 a0)] (.agg (V8 r)) [] []:=by
 refine Spec.of u7 Tryz.func29 rfl Tryz.ntmps29 (by kernel_rfl) rfl rfl rfl fun Γ hn=>?_;unfold aH2 at h;refine j6 hn ?_;refine j5.seqQ fun _ A0 _ _=>?_;refine C9 hn (by kernel_rfl) ?_;obtain ⟨r1,hr2,h⟩:=j4 h;show l5 _ _ _ _ _;refine cA (((aB3 N a0.world r1 hr2).sw 0 5).sw 1 705) ?_;obtain ⟨r3,hr4,h⟩:=j4 h;show l5 _ _ _ _ _;refine cA ((a06 N a0.cells r3 hr4).sw 0 8) ?_;obtain ⟨r5,hr6,h⟩:=j4 h;show l5 _ _ _ _ _;refine cA ((bR9 N a0.tallies r5 hr6).sw 0 11) ?_;obtain ⟨r7,hr8,h⟩:=j4 h;show l5 _ _ _ _ _;refine cA ((bP9 N a0.saved r7 hr8).sw 0 14) ?_;refine A0 _ _ ?_;refine j5.fzAllD 5 rfl ?_;refine j5.fzAll 8 rfl ?_;refine j5.fzAll 11 rfl ?_;refine j5.fzAll 14 rfl ?_;refine got hn ?_;obtain rfl:=oI h;exact ⟨[],_,fm⟩

theorem aQ9 (N:Nat) (a0:ByteArray) (r:Bool) (h:aG6 N a0=some r):Spec Tryz.prog 36 [] [.str a0] (.bool r) [] []:=by
 refine Spec.of u7 Tryz.func36 rfl Tryz.ntmps36 (by kernel_rfl) rfl rfl rfl fun Γ hn=>?_;unfold aG6 at h;refine j6 hn ?_;refine j5.seqQ fun _ A0 _ R0=>?_;refine j5.seqQ fun _ A1 _ _=>?_;obtain ⟨o3,h2,h⟩:=j4 h;refine jk (ι:={ s // o3=s }) hn (fun s=>[(11,.bool s.1)]) (fun s=>[]) [(0,_)] [] (fun _ A2 _ _=>?_) ?_
 ·refine q8 hn ?_;intro _;refine l6 h2 (fun hb5 h2=>?_) (fun hb5 h2=>?_)
  ·refine j3 hb5 ?_;refine j3 hb5 ?_;refine j3 hb5 ?_;refine A2 _ _ ?_;exact jn ⟨_,sj h2⟩ []
  refine d9 hb5 ?_;intro _;refine d9 hb5 ?_;refine d9 hb5 ?_;refine A2 _ _ ?_;exact jn ⟨_,sj h2⟩ []
 rintro ⟨v1,hv_⟩;replace hv_:=hv_.symm;subst hv_;refine A1 _ _ ?_;refine l8 hn ?_;refine l6 h (fun hb7 h=>?_) (fun hb7 h=>?_)
 ·refine j6 hn ?_;refine got hn ?_;refine R0 _ _ ?_;obtain rfl:=oI h;exact ⟨[],_,fm⟩
 refine q9 hn ?_;refine A0 _ _ ?_;refine j5.seqQ fun _ A3 _ R3=>?_;refine j6 hn ?_;intro _;refine j5.rng 13 rfl (fun hrn9=>?_);obtain ⟨o10,h11,h⟩:=j4 h;refine jk (ι:={ s // o10=F9.next s }) hn (fun s=>[]) (fun s=>[]) [] [] (fun _ A4 _ R4=>?_) ?_
 ·refine j5.blkQ fun _ _ E5 _ R5=>?_;refine lq (ι:={ q:(Nat×Nat) // q.1=((a0.size:Int) - (q.2:Int)).toNat∧aP7 N a0 q.1 q.2=some o10 }) hn (fun q=>[(14,.int (q.1.2:Int))]) (fun q=>[]) (fun q=>q.1.1) [(0,_),(13,_)] [] ⟨(((a0.size:Int) - ((0:Nat):Int)).toNat,0),rfl,h11⟩ [] ?_;rintro ⟨⟨n_,k9⟩,hd13,h11⟩ _ A6 X6 R6;replace hd13:n_=((a0.size:Int) - (k9:Int)).toNat:=hd13;rcases n_ with _|n14
  ·have hlt17:=bH8 hd13;replace h11:=(aP7.eq_1 _ _ _).symm.trans h11;refine j6 hn ?_;refine j5.seqQ fun _ _ X7 _=>?_;refine l8 hn ?_;refine d9 hlt17 ?_;refine F8 hn ?_;refine X7 _ _ _ ?_;refine X6 _ _ _ ?_;refine E5 _ _ ?_;refine A4 _ _ ?_;exact jn ⟨_,sj h11⟩ []
  ·obtain ⟨hd2,hlt17⟩:=bA2 hd13;replace h11:=(aP7.eq_2 _ _ _ _).symm.trans h11;refine j6 hn ?_;refine j5.seqQ fun _ A8 _ _=>?_;refine l8 hn ?_;refine j3 hlt17 ?_;refine q9 hn ?_;refine A8 _ _ ?_;refine j5.seqQ fun _ A9 _ R9=>?_;refine j5.blkQ fun _ A10 _ _ R10=>?_;refine j6 hn ?_;refine j5.seqQ fun _ A11 _ _=>?_;obtain ⟨o20,h19,h11⟩:=j4 h11;refine jk (ι:={ s // o20=s }) hn (fun s=>[(26,.bool s.1)]) (fun s=>[]) [(0,_),(13,_),(14,_)] [] (fun _ A12 _ _=>?_) ?_
   ·refine q8 hn ?_;obtain ⟨u21,hx22,h19⟩:=j4 h19;refine byM hx22 ?_;refine And.intro rfl ?_;refine l6 h19 (fun hb23 h19=>?_) (fun hb23 h19=>?_)
    ·refine j3 hb23 ?_;refine j3 hb23 ?_;refine j3 hb23 ?_;refine j3 hb23 ?_;refine A12 _ _ ?_;exact jn ⟨_,sj h19⟩ []
    refine d9 hb23 ?_;refine d9 hb23 ?_;obtain ⟨u24,hx25,h19⟩:=j4 h19;refine byM hx25 ?_;refine d9 hb23 ?_;refine And.intro rfl ?_;refine d9 hb23 ?_;refine A12 _ _ ?_;exact jn ⟨_,sj h19⟩ []
   rintro ⟨v18,hv_⟩;replace hv_:=hv_.symm;subst hv_;refine A11 _ _ ?_;refine l8 hn ?_;refine l6 h11 (fun hb26 h11=>?_) (fun hb26 h11=>?_)
   ·refine j6 hn ?_;refine got hn ?_;refine R10 _ _ ?_;refine R9 _ _ ?_;refine R6 _ _ ?_;refine R5 _ _ ?_;refine R4 _ _ ?_;refine R3 _ _ ?_;obtain rfl:=oI h11;obtain rfl:=oI h;exact ⟨[],_,fm⟩
   refine q9 hn ?_;refine A10 _ _ ?_;refine A9 _ _ ?_;refine q8 hn ?_;refine Or.inl (And.intro (bQ7 hlt17 hrn9) ?_);refine A6 _ _ ?_;exact jn ⟨(n14,k9+1),hd2,h11⟩ [] (by show n14 < n14+1; omega)
 rintro ⟨⟨⟩,rfl⟩;refine A3 _ _ ?_;refine j6 hn ?_;refine got hn ?_;obtain rfl:=oI h;exact ⟨[],_,fm⟩

theorem aM0 (N:Nat) (a0:(List Cl)) (g1:Cl→Option Bool) {K1:Nat} {c1_0:List AV} (hg1:∀x0_ y_,g1 x0_=some y_→Spec Tryz.prog K1 [] [.agg (F4 x0_),.fp c1_0] (.bool y_) [] []) (r:Int) (h:Y6 N a0 g1=some r):Spec Tryz.prog 123 [] [.sl 4 (List.map F4 a0),.fn K1 [.fp c1_0]] (.int r) [] []:=by
 refine Spec.of u7 Tryz.func123 rfl Tryz.ntmps123 (by kernel_rfl) rfl rfl rfl fun Γ hn=>?_;unfold Y6 at h;refine j6 hn ?_;refine j5.seqQ fun _ A0 _ R0=>?_;refine j6 hn ?_;refine w9 (fun hl1=>?_);obtain ⟨o3,h4,h⟩:=j4 h;refine jk (ι:={ s // o3=F9.next s }) hn (fun s=>[]) (fun s=>[]) [] [] (fun _ A1 _ R1=>?_) ?_
 ·refine j5.blkQ fun _ _ E2 _ R2=>?_;refine lq (ι:={ q:((List Cl)×Nat) // q.1=a0.drop q.2∧M0 N g1 q.1 q.2=some o3 }) hn (fun q=>[(8,.int (q.1.2:Int))]) (fun q=>[]) (fun q=>q.1.1.length) [(0,_),(1,_),(7,_)] [] ⟨(a0,0),rfl,h4⟩ [] ?_;rintro ⟨⟨rest_,k2⟩,hd6,h4⟩ _ A3 X3 R3;replace hd6:rest_=a0.drop k2:=hd6;rcases rest_ with _|⟨x8,rest5⟩
  ·have hlt10:=I8 hd6;replace h4:=(M0.eq_1 _ _ _).symm.trans h4;refine j6 hn ?_;refine j5.seqQ fun _ _ X4 _=>?_;refine l8 hn ?_;refine d9 hlt10 ?_;refine F8 hn ?_;refine X4 _ _ _ ?_;refine X3 _ _ _ ?_;refine E2 _ _ ?_;refine A1 _ _ ?_;exact jn ⟨_,sj h4⟩ []
  ·obtain ⟨hx9,hd2,hlt10⟩:=H7 hd6;replace h4:=(M0.eq_2 _ _ _ _ _).symm.trans h4;refine j6 hn ?_;refine j5.seqQ fun _ A5 _ _=>?_;refine l8 hn ?_;refine j3 hlt10 ?_;refine q9 hn ?_;refine A5 _ _ ?_;refine j5.seqQ fun _ A6 _ R6=>?_;refine j5.blkQ fun _ A7 _ _ R7=>?_;refine j6 hn ?_;refine j6 hn ?_;refine Z4 hx9 ?_;obtain ⟨r11,hr12,h4⟩:=j4 h4;show l5 _ _ _ _ _;refine cA (hg1 _ _ hr12) ?_;refine l8 hn ?_;refine l6 h4 (fun hb13 h4=>?_) (fun hb13 h4=>?_)
   ·refine j6 hn ?_;refine got hn ?_;refine R7 _ _ ?_;refine R6 _ _ ?_;refine R3 _ _ ?_;refine R2 _ _ ?_;refine R1 _ _ ?_;refine R0 _ _ ?_;obtain rfl:=oI h4;obtain rfl:=oI h;exact ⟨[],_,fm⟩
   refine q9 hn ?_;refine A7 _ _ ?_;refine A6 _ _ ?_;refine q8 hn ?_;refine Or.inl (And.intro (V7 hx9 hl1) ?_);refine A3 _ _ ?_;exact jn ⟨(rest5,k2+1),hd2,h4⟩ [] (by show rest5.length < rest5.length+1; omega)
 rintro ⟨⟨⟩,rfl⟩;refine A0 _ _ ?_;refine j6 hn ?_;refine got hn ?_;obtain rfl:=oI h;exact ⟨[],_,fm⟩

theorem aK7 (N:Nat) (a0:(List Cl)) (g1:Cl→Option Bool) {K1:Nat} {c1_0:List AV} (hg1:∀x0_ y_,g1 x0_=some y_→Spec Tryz.prog K1 [] [.agg (F4 x0_),.fp c1_0] (.bool y_) [] []) (r:Bool) (h:V3 N a0 g1=some r):Spec Tryz.prog 95 [] [.sl 4 (List.map F4 a0),.fn K1 [.fp c1_0]] (.bool r) [] []:=by
 refine Spec.of u7 Tryz.func95 rfl Tryz.ntmps95 (by kernel_rfl) rfl rfl rfl fun Γ hn=>?_;unfold V3 at h;refine j6 hn ?_;refine j6 hn ?_;obtain ⟨r1,hr2,h⟩:=j4 h;show l5 _ _ _ _ _;refine cA (aM0 N a0 g1 hg1 r1 hr2) ?_;refine got hn ?_;obtain rfl:=oI h;exact ⟨[],_,fm⟩

theorem bZ1 (N:Nat) (a0:Cl) (b0:ByteArray) (r:Bool) (h:aZ8 N a0 b0=some r):Spec Tryz.prog 96 [] [.agg (F4 a0),.fp [.str b0]] (.bool r) [] []:=by
 refine Spec.of u7 Tryz.func96 rfl Tryz.ntmps96 (by kernel_rfl) rfl rfl rfl fun Γ hn=>?_;unfold aZ8 at h;refine j6 hn ?_;refine j6 hn ?_;refine got hn ?_;obtain rfl:=oI h;exact ⟨[],_,fm⟩

theorem aA3 (N:Nat) (a0:Wd) (a1:Int) (r:Int) (h:aE7 N a0 a1=some r):Spec Tryz.prog 37 [] [.agg (P6 a0),.int a1] (.int r) [] []:=by
 refine Spec.of u7 Tryz.func37 rfl Tryz.ntmps37 (by kernel_rfl) rfl rfl rfl fun Γ hn=>?_;unfold aE7 at h;refine j6 hn ?_;refine j6 hn ?_;refine j5.seqQ fun _ A0 _ _=>?_;refine j6 hn ?_;obtain ⟨o9,h10,h⟩:=j4 h;refine jk (ι:={ s // o9=s }) hn (fun s=>[(5,.int s.1)]) (fun s=>[]) [] [] (fun _ A1 _ _=>?_) ?_
 ·refine j5.blkQ fun _ _ E2 _ _=>?_;refine lq (ι:={ q:(Nat×Int×Int×Int) // aN5 N a0 q.1 q.2.1 q.2.2.1 q.2.2.2=some o9 }) hn (fun q=>[(1,.int q.1.2.1),(5,.int q.1.2.2.1),(6,.int q.1.2.2.2)]) (fun q=>[]) (fun q=>q.1.1) [(2,_)] [(2,_)] ⟨(N,a1,(0:Int),(0:Int)),h10⟩ [] ?_;rintro ⟨⟨n_,v2,v3,v4⟩,h10⟩ _ A3 X3 _;rcases n_ with _|n13
  ·rw [aN5.eq_1] at h10;cases h10
  ·replace h10:=(aN5.eq_2 _ _ _ _ _ _).symm.trans h10;refine j5.seqQ fun _ A4 X4 _=>?_;refine j5.seqQ fun _ A5 _ _=>?_;obtain ⟨o16,h15,h10⟩:=j4 h10;refine jk (ι:={ s // o16=s }) hn (fun s=>[(22,.bool s.1)]) (fun s=>[]) [(1,_),(2,_),(5,_),(6,_)] [(2,_)] (fun _ A6 _ _=>?_) ?_
   ·refine q8 hn ?_;refine l6 h15 (fun hb17 h15=>?_) (fun hb17 h15=>?_)
    ·refine j3 hb17 ?_;refine j3 hb17 ?_;refine j3 hb17 ?_;refine w9 (fun _=>?_);refine j3 hb17 ?_;refine j3 hb17 ?_;refine l6 h15 (fun hb19 h15=>?_) (fun hb19 h15=>?_)
     ·refine j3 hb19 ?_;refine j3 hb19 ?_;refine j3 hb19 ?_;refine w9 (fun _=>?_);refine j3 hb19 ?_;refine j3 hb19 ?_;refine A6 _ _ ?_;exact jn ⟨_,sj h15⟩ []
     refine d9 hb19 ?_;refine d9 hb19 ?_;refine d9 hb19 ?_;refine d9 hb19 ?_;refine d9 hb19 ?_;refine A6 _ _ ?_;exact jn ⟨_,sj h15⟩ []
    refine d9 hb17 ?_;refine d9 hb17 ?_;refine d9 hb17 ?_;refine d9 hb17 ?_;refine d9 hb17 ?_;refine A6 _ _ ?_;exact jn ⟨_,sj h15⟩ []
   rintro ⟨v14,hv_⟩;replace hv_:=hv_.symm;subst hv_;refine A5 _ _ ?_;refine l8 hn ?_;refine l6 h10 (fun hb21 h10=>?_) (fun hb21 h10=>?_)
   ·refine q9 hn ?_;refine A4 _ _ ?_;refine j5.seqQ fun _ A7 _ _=>?_;refine j5.blkQ fun _ A8 _ _ _=>?_;refine j6 hn ?_;obtain ⟨x22,hx23,h10⟩:=j4 h10;refine K6 hx23 ?_;refine Or.inr ?_;refine q8 hn ?_;obtain ⟨x24,hx25,h10⟩:=j4 h10;refine K6 hx25 ?_;refine A8 _ _ ?_;refine A7 _ _ ?_;refine kp [(1,_),(2,_),(5,_),(6,_)] [(2,_)] ?_;refine q8 hn ?_;refine Or.inr ?_;refine A3 _ _ ?_;exact jn ⟨(n13,x24.super,(wr (v3+x22.slots)),(wr (v4+(1:Int)))),h10⟩ [] (by show n13 < n13+1; omega)
   refine F8 hn ?_;refine X4 _ _ _ ?_;refine X3 _ _ _ ?_;refine E2 _ _ ?_;refine A1 _ _ ?_;exact jn ⟨_,sj h10⟩ []
 rintro ⟨v8,hv_⟩;replace hv_:=hv_.symm;subst hv_;refine A0 _ _ ?_;refine j6 hn ?_;refine got hn ?_;obtain rfl:=oI h;exact ⟨[],_,fm⟩

theorem b48 (N:Nat) (a0:Wd) (r:Wd) (h:bJ0 N a0=some r):Spec Tryz.prog 60 [] [.agg (P6 a0)] (.agg [.own 0,.sl 2 (List.map D8 r.heap),.int r.epoch]) [(0,.row 4 (List.map F4 r.classes) 81)] [0]:=by
 refine Spec.of u7 Tryz.func60 rfl Tryz.ntmps60 (by kernel_rfl) rfl rfl rfl fun Γ hn=>?_;unfold bJ0 at h;refine j6 hn ?_;refine j5.seqQ fun _ A0 _ _=>?_;refine C9 hn (by kernel_rfl) ?_;obtain ⟨r1,hr2,h⟩:=j4 h;show l5 _ _ _ _ _;refine cA (((a01 N a0.heap r1 hr2).sw 0 11).sw 1 711) ?_;refine A0 _ _ ?_;refine j5.seqQ fun _ A1 _ _=>?_;refine j6 hn ?_;refine w9 (fun hl3=>?_);refine j5.nilrowB 3 0 501 4 81 rfl rfl rfl rfl rfl rfl ?_;obtain ⟨o8,h9,h⟩:=j4 h;refine jk (ι:={ s // o8=s }) hn (fun s=>[]) (fun s=>[(501,.row 4 (List.map F4 s.1) 81)]) [(2,_),(3,_)] [(2,_),(3,_),(11,_),(711,_)] (fun _ A2 _ _=>?_) ?_
 ·refine j5.blkQ fun _ _ E3 _ _=>?_;refine lq (ι:={ q:((List Cl)×Nat×(List Cl)) // q.1=a0.classes.drop q.2.1∧aN8 N q.1 q.2.1 q.2.2=some o8 }) hn (fun q=>[(18,.int (q.1.2.1:Int))]) (fun q=>[(501,.row 4 (List.map F4 q.1.2.2) 81)]) (fun q=>q.1.1.length) [(2,_),(3,_),(16,_),(17,_)] [(2,_),(3,_),(11,_),(711,_)] ⟨(a0.classes,0,([]:List Cl)),rfl,h9⟩ [] ?_;rintro ⟨⟨rest_,k4,v5⟩,hd11,h9⟩ _ A4 X4 _;replace hd11:rest_=a0.classes.drop k4:=hd11;rcases rest_ with _|⟨x13,rest10⟩
  ·have hlt15:=I8 hd11;replace h9:=(aN8.eq_1 _ _ _).symm.trans h9;refine j6 hn ?_;refine j5.seqQ fun _ _ X5 _=>?_;refine l8 hn ?_;refine d9 hlt15 ?_;refine F8 hn ?_;refine X5 _ _ _ ?_;refine X4 _ _ _ ?_;refine E3 _ _ ?_;refine A2 _ _ ?_;exact jn ⟨_,sj h9⟩ []
  ·obtain ⟨hx14,hd2,hlt15⟩:=H7 hd11;replace h9:=(aN8.eq_2 _ _ _ _ _).symm.trans h9;refine j6 hn ?_;refine j5.seqQ fun _ A6 _ _=>?_;refine l8 hn ?_;refine j3 hlt15 ?_;refine q9 hn ?_;refine A6 _ _ ?_;refine j5.seqQ fun _ A7 _ _=>?_;refine j5.blkQ fun _ A8 _ _ _=>?_;refine j6 hn ?_;refine Z4 hx14 ?_;refine j6 hn ?_;refine j5.seqQ fun _ A9 _ _=>?_;refine j6 hn ?_;refine w9 (fun hl16=>?_);refine j5.nilrow 6 206 5 27 rfl rfl rfl ?_;obtain ⟨o21,h22,h9⟩:=j4 h9;refine jk (ι:={ s // o21=s }) hn (fun s=>[]) (fun s=>[(206,.row 5 (List.map J3 s.1) 27)]) [(2,_),(3,_),(5,_),(6,_),(16,_),(17,_),(18,_)] [(2,_),(3,_),(5,_),(11,_),(501,_),(711,_)] (fun _ A10 _ _=>?_) ?_
   ·refine j5.blkQ fun _ _ E11 _ _=>?_;refine lq (ι:={ q:((List Me)×Nat×(List Me)) // q.1=x13.methods.drop q.2.1∧aN6 N q.1 q.2.1 q.2.2=some o21 }) hn (fun q=>[(25,.int (q.1.2.1:Int))]) (fun q=>[(206,.row 5 (List.map J3 q.1.2.2) 27)]) (fun q=>q.1.1.length) [(2,_),(3,_),(5,_),(6,_),(16,_),(17,_),(18,_),(23,_),(24,_)] [(2,_),(3,_),(5,_),(11,_),(501,_),(711,_)] ⟨(x13.methods,0,([]:List Me)),rfl,h22⟩ [] ?_;rintro ⟨⟨rest_,k17,v18⟩,hd24,h22⟩ _ A12 X12 _;replace hd24:rest_=x13.methods.drop k17:=hd24;rcases rest_ with _|⟨x26,rest23⟩
    ·have hlt28:=I8 hd24;replace h22:=(aN6.eq_1 _ _ _).symm.trans h22;refine j6 hn ?_;refine j5.seqQ fun _ _ X13 _=>?_;refine l8 hn ?_;refine d9 hlt28 ?_;refine F8 hn ?_;refine X13 _ _ _ ?_;refine X12 _ _ _ ?_;refine E11 _ _ ?_;refine A10 _ _ ?_;exact jn ⟨_,sj h22⟩ []
    ·obtain ⟨hx27,hd2,hlt28⟩:=H7 hd24;replace h22:=(aN6.eq_2 _ _ _ _ _).symm.trans h22;refine j6 hn ?_;refine j5.seqQ fun _ A14 _ _=>?_;refine l8 hn ?_;refine j3 hlt28 ?_;refine q9 hn ?_;refine A14 _ _ ?_;refine j5.seqQ fun _ A15 _ _=>?_;refine j5.blkQ fun _ A16 _ _ _=>?_;refine j6 hn ?_;refine Z4 hx27 ?_;refine q8 hn ?_;obtain ⟨r29,hr30,h22⟩:=j4 h22;show l5 _ _ _ _ _;refine cA (aR9 N x26 r29 hr30) ?_;refine Exists.intro (List.map J3 [r29]) (And.intro aT ?_);obtain ⟨hg31,h22⟩:=C8 h22;refine Y2 (l2:=[r29]) hg31 (y9 _) ?_;refine A16 _ _ ?_;refine A15 _ _ ?_;refine kp [(2,_),(3,_),(5,_),(6,_),(16,_),(17,_),(18,_),(23,_),(24,_),(25,_)] [(2,_),(3,_),(5,_),(11,_),(33,_),(501,_),(711,_)] ?_;refine q8 hn ?_;refine Or.inl (And.intro (V7 hx27 hl16) ?_);refine A12 _ _ ?_;exact jn ⟨(rest23,k17+1,(v18++[r29])),hd2,h22⟩ [(206,33)] (by show rest23.length < rest23.length+1; omega)
   rintro ⟨v20,hv_⟩;replace hv_:=hv_.symm;subst hv_;refine A9 _ _ ?_;refine j6 hn ?_;refine q8 hn ?_;refine Or.inr ?_;refine Exists.intro (List.map F4 [(⟨x13.name,x13.super,x13.slots,v20⟩:Cl)]) (And.intro aT ?_);obtain ⟨hg32,h9⟩:=C8 h9;refine Y2 (l2:=[(⟨x13.name,x13.super,x13.slots,v20⟩:Cl)]) hg32 (y9 _) ?_;refine A8 _ _ ?_;refine A7 _ _ ?_;refine q8 hn ?_;refine Or.inl (And.intro (V7 hx14 hl3) ?_);refine A4 _ _ ?_;exact jn ⟨(rest10,k4+1,(v5++[(⟨x13.name,x13.super,x13.slots,v20⟩:Cl)])),hd2,h9⟩ [(501,41)] (by show rest10.length < rest10.length+1; omega)
 rintro ⟨v7,hv_⟩;replace hv_:=hv_.symm;subst hv_;refine A1 _ _ ?_;refine j6 hn ?_;refine j5.fzAllD 11 rfl ?_;refine got hn ?_;obtain rfl:=oI h;exact ⟨[(0,501)],_,fm⟩

theorem cA6 (N:Nat) (a0:Wd) (a1:ByteArray) (a2:Int) (a3:Int) (r:(Wd×Int×Int)) (h:bO8 N a0 a1 a2 a3=some r):Spec Tryz.prog 64 [] [.agg (P6 a0),.str a1,.int a2,.int a3] (.tup [.agg (P6 r.1),.int r.2.1,.int r.2.2]) [] []:=by
 refine Spec.of u7 Tryz.func64 rfl Tryz.ntmps64 (by kernel_rfl) rfl rfl rfl fun Γ hn=>?_;unfold bO8 at h;refine j6 hn ?_;refine j5.seqQ fun _ A0 _ R0=>?_;refine j5.blkQ fun _ A1 _ _ R1=>?_;refine j5.seqQ fun _ A2 _ _=>?_;refine j5.gh (Gh.fzBox 5 5 rfl rfl rfl) (fun _=>?_);obtain ⟨o3,h2,h⟩:=j4 h;refine jk (ι:={ s // o3=s }) hn (fun s=>[(12,.bool s.1)]) (fun s=>[]) [(2,_),(3,_),(4,_),(5,_),(8,_)] [(4,_),(8,_)] (fun _ A3 _ _=>?_) ?_
 ·refine q8 hn ?_;obtain ⟨r4,hr5,h2⟩:=j4 h2;show l5 _ _ _ _ _;refine cA (aQ9 N a1 r4 hr5) ?_;refine l6 h2 (fun hb6 h2=>?_) (fun hb6 h2=>?_)
  ·refine j3 hb6 ?_;refine j3 hb6 ?_;refine j3 hb6 ?_;refine j3 hb6 ?_;refine A3 _ _ ?_;exact jn ⟨_,sj h2⟩ []
  refine d9 hb6 ?_;refine d9 hb6 ?_;refine d9 hb6 ?_;obtain ⟨r7,hr8,h2⟩:=j4 h2;show l5 _ _ _ _ _;refine cA (aK7 N a0.classes (fun x0_=>aZ8 N x0_ a1) (fun x0_ y_ hy_=>bZ1 N x0_ a1 y_ hy_) r7 hr8) ?_;refine d9 hb6 ?_;refine A3 _ _ ?_;exact jn ⟨_,sj h2⟩ []
 rintro ⟨v1,hv_⟩;replace hv_:=hv_.symm;subst hv_;refine A2 _ _ ?_;refine l8 hn ?_;refine l6 h (fun hb9 h=>?_) (fun hb9 h=>?_)
 ·refine j6 hn ?_;refine got hn ?_;refine R1 _ _ ?_;refine R0 _ _ ?_;obtain rfl:=oI h;exact ⟨[],_,fm⟩
 refine j5.seqQ fun _ A4 _ _=>?_;obtain ⟨o12,h11,h⟩:=j4 h;refine jk (ι:={ s // o12=s }) hn (fun s=>[(23,.bool s.1)]) (fun s=>[]) [(2,_),(3,_),(4,_),(5,_),(8,_)] [(4,_),(8,_)] (fun _ A5 _ _=>?_) ?_
 ·refine q8 hn ?_;refine l6 h11 (fun hb13 h11=>?_) (fun hb13 h11=>?_)
  ·refine j3 hb13 ?_;refine j3 hb13 ?_;refine j3 hb13 ?_;refine j3 hb13 ?_;refine j3 hb13 ?_;refine A5 _ _ ?_;exact jn ⟨_,sj h11⟩ []
  refine d9 hb13 ?_;refine d9 hb13 ?_;refine d9 hb13 ?_;refine w9 (fun _=>?_);refine d9 hb13 ?_;refine d9 hb13 ?_;refine A5 _ _ ?_;exact jn ⟨_,sj h11⟩ []
 rintro ⟨v10,hv_⟩;replace hv_:=hv_.symm;subst hv_;refine A4 _ _ ?_;refine l8 hn ?_;refine l6 h (fun hb15 h=>?_) (fun hb15 h=>?_)
 ·refine j6 hn ?_;refine got hn ?_;refine R1 _ _ ?_;refine R0 _ _ ?_;obtain rfl:=oI h;exact ⟨[],_,fm⟩
 refine j5.seqQ fun _ A6 _ _=>?_;obtain ⟨o18,h17,h⟩:=j4 h;refine jk (ι:={ s // o18=s }) hn (fun s=>[(34,.bool s.1)]) (fun s=>[]) [(2,_),(3,_),(4,_),(5,_),(8,_)] [(4,_),(8,_)] (fun _ A7 _ _=>?_) ?_
 ·refine q8 hn ?_;refine l6 h17 (fun hb19 h17=>?_) (fun hb19 h17=>?_)
  ·refine j3 hb19 ?_;refine j3 hb19 ?_;refine j3 hb19 ?_;refine j3 hb19 ?_;refine j3 hb19 ?_;refine j3 hb19 ?_;refine A7 _ _ ?_;exact jn ⟨_,sj h17⟩ []
  refine d9 hb19 ?_;refine d9 hb19 ?_;refine d9 hb19 ?_;obtain ⟨r20,hr21,h17⟩:=j4 h17;show l5 _ _ _ _ _;refine cA (aA3 N a0 a2 r20 hr21) ?_;refine d9 hb19 ?_;refine Or.inr ?_;refine d9 hb19 ?_;refine d9 hb19 ?_;refine l6 h17 (fun hb22 h17=>?_) (fun hb22 h17=>?_)
  ·refine j3 hb22 ?_;refine j3 hb22 ?_;refine j3 hb22 ?_;refine j3 hb22 ?_;refine A7 _ _ ?_;exact jn ⟨_,sj h17⟩ []
  refine d9 hb22 ?_;refine d9 hb22 ?_;refine l6 h17 (fun hb23 h17=>?_) (fun hb23 h17=>?_)
  ·refine j3 hb23 ?_;refine d9 hb22 ?_;refine j3 hb23 ?_;refine d9 hb22 ?_;refine A7 _ _ ?_;exact jn ⟨_,sj h17⟩ []
  refine d9 hb23 ?_;refine d9 hb22 ?_;refine d9 hb23 ?_;refine d9 hb22 ?_;refine A7 _ _ ?_;exact jn ⟨_,sj h17⟩ []
 rintro ⟨v16,hv_⟩;replace hv_:=hv_.symm;subst hv_;refine A6 _ _ ?_;refine l8 hn ?_;refine l6 h (fun hb24 h=>?_) (fun hb24 h=>?_)
 ·refine j6 hn ?_;refine got hn ?_;refine R1 _ _ ?_;refine R0 _ _ ?_;obtain rfl:=oI h;exact ⟨[],_,fm⟩
 refine j6 hn ?_;refine w9 (fun _=>?_);refine l8 hn ?_;refine l6 h (fun hb26 h=>?_) (fun hb26 h=>?_)
 ·refine j6 hn ?_;refine got hn ?_;refine R1 _ _ ?_;refine R0 _ _ ?_;obtain rfl:=oI h;exact ⟨[],_,fm⟩
 refine q9 hn ?_;refine A1 _ _ ?_;refine A0 _ _ ?_;refine j6 hn ?_;obtain ⟨r27,hr28,h⟩:=j4 h;show l5 _ _ _ _ _;refine cA ((b48 N a0 r27 hr28).sw 0 61) ?_;refine j6 hn ?_;refine Or.inr ?_;refine Exists.intro (List.map F4 [(⟨a1,a2,a3,[]⟩:Cl)]) (And.intro aT ?_);obtain ⟨hg29,h⟩:=C8 h;refine Y2 (l2:=[(⟨a1,a2,a3,[]⟩:Cl)]) hg29 (y9 _) ?_;refine j5.seqQ fun _ A8 _ _=>?_;refine kp [(4,_),(8,_),(11,_)] [(4,_),(8,_),(11,_),(69,_)] ?_;refine C9 hn (by kernel_rfl) ?_;refine w9 (fun _=>?_);refine A8 _ _ ?_;refine j5.fzAll 69 rfl ?_;refine got hn ?_;obtain rfl:=oI h;exact ⟨[],_,fm⟩

theorem aG0 (N:Nat) (a0:Int) (a1:Int) (r:Bool) (h:aE3 N a0 a1=some r):Spec Tryz.prog 107 [] [.int a0,.int a1] (.bool r) [] []:=by
 refine Spec.of u7 Tryz.func107 rfl Tryz.ntmps107 (by kernel_rfl) rfl rfl rfl fun Γ hn=>?_;unfold aE3 at h;refine j6 hn ?_;refine j5.seqQ fun _ A0 _ _=>?_;obtain ⟨o3,h2,h⟩:=j4 h;refine jk (ι:={ s // o3=s }) hn (fun s=>[(4,.bool s.1)]) (fun s=>[]) [] [] (fun _ A1 _ _=>?_) ?_
 ·refine q8 hn ?_;refine l6 h2 (fun hb4 h2=>?_) (fun hb4 h2=>?_)
  ·refine j3 hb4 ?_;refine j3 hb4 ?_;refine j3 hb4 ?_;refine A1 _ _ ?_;exact jn ⟨_,sj h2⟩ []
  refine d9 hb4 ?_;refine d9 hb4 ?_;refine d9 hb4 ?_;refine A1 _ _ ?_;exact jn ⟨_,sj h2⟩ []
 rintro ⟨v1,hv_⟩;replace hv_:=hv_.symm;subst hv_;refine A0 _ _ ?_;refine got hn ?_;obtain rfl:=oI h;exact ⟨[],_,fm⟩

theorem bZ2 (N:Nat) (a0:Wd) (a1:Int) (a2:Me) (a3:Ins) (r:Int) (h:aM7 N a0 a1 a2 a3=some r):Spec Tryz.prog 74 [] [.fp (P6 a0),.int a1,.fp (J3 a2),.agg (I6 a3)] (.int r) [] []:=by
 refine Spec.of u7 Tryz.func74 rfl Tryz.ntmps74 (by kernel_rfl) rfl rfl rfl fun Γ hn=>?_;unfold aM7 at h;refine j6 hn ?_;refine j6 hn ?_;refine j6 hn ?_;refine j5.seqQ fun _ A0 _ R0=>?_;refine j6 hn ?_;obtain ⟨o4,h3,h⟩:=j4 h;refine jk (ι:={ s // o4=F9.next s }) hn (fun s=>[(10,.bool s.1.1),(11,.bool s.1.2)]) (fun s=>[]) [(7,_)] [(7,_)] (fun _ A1 _ R1=>?_) ?_
 ·refine j5.blkQ fun _ A2 _ _ R2=>?_;refine j5.seqQ fun _ A3 _ _=>?_;refine j6 hn ?_;obtain ⟨o7,h6,h3⟩:=j4 h3;refine jk (ι:={ s // o7=s }) hn (fun s=>[(14,.bool s.1)]) (fun s=>[]) [(0,_),(1,_),(2,_),(7,_),(9,_),(11,_),(13,_)] [(7,_)] (fun _ A4 _ _=>?_) ?_
  ·refine l8 hn ?_;refine l6 h6 (fun hb8 h6=>?_) (fun hb8 h6=>?_)
   ·refine q9 hn ?_;refine A4 _ _ ?_;exact jn ⟨_,sj h6⟩ []
   refine j6 hn ?_;obtain ⟨o11,h10,h6⟩:=j4 h6;refine jk (ι:={ s // o11=s }) hn (fun s=>[(14,.bool s.1)]) (fun s=>[]) [(0,_),(1,_),(2,_),(7,_),(9,_),(11,_),(13,_)] [(7,_)] (fun _ A5 _ _=>?_) ?_
   ·refine l8 hn ?_;refine l6 h10 (fun hb12 h10=>?_) (fun hb12 h10=>?_)
    ·refine q9 hn ?_;refine A5 _ _ ?_;exact jn ⟨_,sj h10⟩ []
    refine j6 hn ?_;obtain ⟨o15,h14,h10⟩:=j4 h10;refine jk (ι:={ s // o15=s }) hn (fun s=>[(14,.bool s.1)]) (fun s=>[]) [(0,_),(1,_),(2,_),(7,_),(9,_),(11,_),(13,_)] [(7,_)] (fun _ A6 _ _=>?_) ?_
    ·refine l8 hn ?_;refine l6 h14 (fun hb16 h14=>?_) (fun hb16 h14=>?_)
     ·refine q9 hn ?_;refine A6 _ _ ?_;exact jn ⟨_,sj h14⟩ []
     refine j6 hn ?_;obtain ⟨o19,h18,h14⟩:=j4 h14;refine jk (ι:={ s // o19=s }) hn (fun s=>[(14,.bool s.1)]) (fun s=>[]) [(0,_),(1,_),(2,_),(7,_),(9,_),(11,_),(13,_)] [(7,_)] (fun _ A7 _ _=>?_) ?_
     ·refine l8 hn ?_;refine l6 h18 (fun hb20 h18=>?_) (fun hb20 h18=>?_)
      ·refine q9 hn ?_;refine A7 _ _ ?_;exact jn ⟨_,sj h18⟩ []
      refine j6 hn ?_;obtain ⟨o23,h22,h18⟩:=j4 h18;refine jk (ι:={ s // o23=s }) hn (fun s=>[(14,.bool s.1)]) (fun s=>[]) [(0,_),(1,_),(2,_),(7,_),(9,_),(11,_),(13,_)] [(7,_)] (fun _ A8 _ _=>?_) ?_
      ·refine l8 hn ?_;refine l6 h22 (fun hb24 h22=>?_) (fun hb24 h22=>?_)
       ·refine q9 hn ?_;refine A8 _ _ ?_;exact jn ⟨_,sj h22⟩ []
       refine kp [(0,_),(1,_),(2,_),(7,_),(9,_),(11,_),(13,_)] [(7,_)] ?_;refine j6 hn ?_;obtain ⟨o27,h26,h22⟩:=j4 h22;refine jk (ι:={ s // o27=s }) hn (fun s=>[(14,.bool s.1)]) (fun s=>[]) [(0,_),(1,_),(2,_),(7,_),(9,_),(11,_),(13,_)] [(7,_)] (fun _ A9 _ _=>?_) ?_
       ·refine l8 hn ?_;refine l6 h26 (fun hb28 h26=>?_) (fun hb28 h26=>?_)
        ·refine q9 hn ?_;refine A9 _ _ ?_;exact jn ⟨_,sj h26⟩ []
        refine q8 hn ?_;refine A9 _ _ ?_;exact jn ⟨_,sj h26⟩ []
       rintro ⟨v25,hv_⟩;replace hv_:=hv_.symm;subst hv_;refine A8 _ _ ?_;exact jn ⟨_,sj h22⟩ []
      rintro ⟨v21,hv_⟩;replace hv_:=hv_.symm;subst hv_;refine A7 _ _ ?_;exact jn ⟨_,sj h18⟩ []
     rintro ⟨v17,hv_⟩;replace hv_:=hv_.symm;subst hv_;refine A6 _ _ ?_;exact jn ⟨_,sj h14⟩ []
    rintro ⟨v13,hv_⟩;replace hv_:=hv_.symm;subst hv_;refine A5 _ _ ?_;exact jn ⟨_,sj h10⟩ []
   rintro ⟨v9,hv_⟩;replace hv_:=hv_.symm;subst hv_;refine A4 _ _ ?_;exact jn ⟨_,sj h6⟩ []
  rintro ⟨v5,hv_⟩;replace hv_:=hv_.symm;subst hv_;refine A3 _ _ ?_;obtain ⟨o32,h31,h3⟩:=j4 h3;refine jk (ι:={ s // o32=F9.next s }) hn (fun s=>[(10,.bool s.1.1),(11,.bool s.1.2)]) (fun s=>[]) [(7,_)] [(7,_)] (fun _ A10 _ R10=>?_) ?_
  ·refine l8 hn ?_;refine l6 h31 (fun hb33 h31=>?_) (fun hb33 h31=>?_)
   ·refine q8 hn ?_;refine A10 _ _ ?_;exact jn ⟨_,sj h31⟩ []
   refine j6 hn ?_;obtain ⟨o37,h36,h31⟩:=j4 h31;refine jk (ι:={ s // o37=F9.next s }) hn (fun s=>[(10,.bool s.1.1),(11,.bool s.1.2)]) (fun s=>[]) [(7,_)] [(7,_)] (fun _ A11 _ R11=>?_) ?_
   ·refine l8 hn ?_;refine l6 h36 (fun hb38 h36=>?_) (fun hb38 h36=>?_)
    ·refine C9 hn (by kernel_rfl) ?_;obtain ⟨r39,hr40,h36⟩:=j4 h36;show l5 _ _ _ _ _;refine cA (aG0 N a3.a a2.args r39 hr40) ?_;refine A11 _ _ ?_;exact jn ⟨_,sj h36⟩ []
    refine j5.seqQ fun _ A12 _ _=>?_;refine j6 hn ?_;obtain ⟨o43,h42,h36⟩:=j4 h36;refine jk (ι:={ s // o43=s }) hn (fun s=>[(35,.bool s.1)]) (fun s=>[]) [(0,_),(1,_),(2,_),(7,_),(9,_),(11,_),(13,_)] [(7,_)] (fun _ A13 _ _=>?_) ?_
    ·refine l8 hn ?_;refine l6 h42 (fun hb44 h42=>?_) (fun hb44 h42=>?_)
     ·refine q9 hn ?_;refine A13 _ _ ?_;exact jn ⟨_,sj h42⟩ []
     refine q8 hn ?_;refine A13 _ _ ?_;exact jn ⟨_,sj h42⟩ []
    rintro ⟨v41,hv_⟩;replace hv_:=hv_.symm;subst hv_;refine A12 _ _ ?_;obtain ⟨o48,h47,h36⟩:=j4 h36;refine jk (ι:={ s // o48=F9.next s }) hn (fun s=>[(10,.bool s.1.1),(11,.bool s.1.2)]) (fun s=>[]) [(7,_)] [(7,_)] (fun _ A14 _ R14=>?_) ?_
    ·refine l8 hn ?_;refine l6 h47 (fun hb49 h47=>?_) (fun hb49 h47=>?_)
     ·refine C9 hn (by kernel_rfl) ?_;obtain ⟨r50,hr51,h47⟩:=j4 h47;show l5 _ _ _ _ _;refine cA (aG0 N a3.a a2.temps r50 hr51) ?_;refine A14 _ _ ?_;exact jn ⟨_,sj h47⟩ []
     refine j5.seqQ fun _ A15 _ _=>?_;refine j6 hn ?_;obtain ⟨o54,h53,h47⟩:=j4 h47;refine jk (ι:={ s // o54=s }) hn (fun s=>[(46,.bool s.1)]) (fun s=>[]) [(0,_),(1,_),(2,_),(7,_),(9,_),(11,_),(13,_)] [(7,_)] (fun _ A16 _ _=>?_) ?_
     ·refine l8 hn ?_;refine l6 h53 (fun hb55 h53=>?_) (fun hb55 h53=>?_)
      ·refine q9 hn ?_;refine A16 _ _ ?_;exact jn ⟨_,sj h53⟩ []
      refine q8 hn ?_;refine A16 _ _ ?_;exact jn ⟨_,sj h53⟩ []
     rintro ⟨v52,hv_⟩;replace hv_:=hv_.symm;subst hv_;refine A15 _ _ ?_;obtain ⟨o59,h58,h47⟩:=j4 h47;refine jk (ι:={ s // o59=F9.next s }) hn (fun s=>[(10,.bool s.1.1),(11,.bool s.1.2)]) (fun s=>[]) [(7,_)] [(7,_)] (fun _ A17 _ R17=>?_) ?_
     ·refine l8 hn ?_;refine l6 h58 (fun hb60 h58=>?_) (fun hb60 h58=>?_)
      ·refine C9 hn (by kernel_rfl) ?_;obtain ⟨r61,hr62,h58⟩:=j4 h58;show l5 _ _ _ _ _;refine cA (aA3 N a0 a1 r61 hr62) ?_;obtain ⟨r63,hr64,h58⟩:=j4 h58;show l5 _ _ _ _ _;refine cA (aG0 N a3.a r61 r63 hr64) ?_;refine A17 _ _ ?_;exact jn ⟨_,sj h58⟩ []
      refine j6 hn ?_;obtain ⟨o68,h67,h58⟩:=j4 h58;refine jk (ι:={ s // o68=F9.next s }) hn (fun s=>[(10,.bool s.1.1),(11,.bool s.1.2)]) (fun s=>[]) [(7,_)] [(7,_)] (fun _ A18 _ R18=>?_) ?_
      ·refine l8 hn ?_;refine l6 h67 (fun hb69 h67=>?_) (fun hb69 h67=>?_)
       ·obtain ⟨o72,h71,h67⟩:=j4 h67;refine jk (ι:={ s // o72=s }) hn (fun s=>[(10,.bool s.1)]) (fun s=>[]) [(7,_),(11,_)] [(7,_)] (fun _ A19 _ _=>?_) ?_
        ·refine q8 hn ?_;refine l6 h71 (fun hb73 h71=>?_) (fun hb73 h71=>?_)
         ·refine j3 hb73 ?_;refine j3 hb73 ?_;refine j3 hb73 ?_;refine A19 _ _ ?_;exact jn ⟨_,sj h71⟩ []
         refine d9 hb73 ?_;refine d9 hb73 ?_;refine d9 hb73 ?_;refine A19 _ _ ?_;exact jn ⟨_,sj h71⟩ []
        rintro ⟨v70,hv_⟩;replace hv_:=hv_.symm;subst hv_;refine A18 _ _ ?_;exact jn ⟨_,sj h67⟩ []
       refine j6 hn ?_;obtain ⟨o77,h76,h67⟩:=j4 h67;refine jk (ι:={ s // o77=F9.next s }) hn (fun s=>[(10,.bool s.1.1),(11,.bool s.1.2)]) (fun s=>[]) [(7,_)] [(7,_)] (fun _ A20 _ R20=>?_) ?_
       ·refine l8 hn ?_;refine l6 h76 (fun hb78 h76=>?_) (fun hb78 h76=>?_)
        ·obtain ⟨o81,h80,h76⟩:=j4 h76;refine jk (ι:={ s // o81=s }) hn (fun s=>[(10,.bool s.1)]) (fun s=>[]) [(7,_),(11,_)] [(7,_)] (fun _ A21 _ _=>?_) ?_
         ·refine kp [(0,_),(7,_),(11,_)] [(7,_)] ?_;refine C9 hn (by kernel_rfl) ?_;refine l6 h80 (fun hb82 h80=>?_) (fun hb82 h80=>?_)
          ·refine j3 hb82 ?_;refine j3 hb82 ?_;refine j3 hb82 ?_;refine j3 hb82 ?_;refine j3 hb82 ?_;refine A21 _ _ ?_;exact jn ⟨_,sj h80⟩ []
          refine d9 hb82 ?_;refine d9 hb82 ?_;refine d9 hb82 ?_;refine l6 h80 (fun hb83 h80=>?_) (fun hb83 h80=>?_)
          ·refine j3 hb83 ?_;refine j3 hb83 ?_;refine j3 hb83 ?_;refine j3 hb83 ?_;refine j3 hb83 ?_;refine j3 hb83 ?_;refine w9 (fun _=>?_);refine j3 hb83 ?_;refine d9 hb82 ?_;refine j3 hb83 ?_;refine d9 hb82 ?_;refine A21 _ _ ?_;exact jn ⟨_,sj h80⟩ []
          refine d9 hb83 ?_;refine d9 hb83 ?_;refine d9 hb83 ?_;refine d9 hb83 ?_;refine d9 hb83 ?_;refine d9 hb83 ?_;refine d9 hb83 ?_;refine d9 hb82 ?_;refine d9 hb83 ?_;refine d9 hb82 ?_;refine A21 _ _ ?_;exact jn ⟨_,sj h80⟩ []
         rintro ⟨v79,hv_⟩;replace hv_:=hv_.symm;subst hv_;refine A20 _ _ ?_;exact jn ⟨_,sj h76⟩ []
        refine j6 hn ?_;obtain ⟨o88,h87,h76⟩:=j4 h76;refine jk (ι:={ s // o88=F9.next s }) hn (fun s=>[(10,.bool s.1.1),(11,.bool s.1.2)]) (fun s=>[]) [(7,_)] [(7,_)] (fun _ A22 _ R22=>?_) ?_
        ·refine l8 hn ?_;refine l6 h87 (fun hb89 h87=>?_) (fun hb89 h87=>?_)
         ·refine q8 hn ?_;obtain ⟨r90,hr91,h87⟩:=j4 h87;show l5 _ _ _ _ _;refine cA (aG0 N a3.a (5:Int) r90 hr91) ?_;refine A22 _ _ ?_;exact jn ⟨_,sj h87⟩ []
         refine j5.seqQ fun _ A23 _ _=>?_;refine j6 hn ?_;obtain ⟨o94,h93,h87⟩:=j4 h87;refine jk (ι:={ s // o94=s }) hn (fun s=>[(94,.bool s.1)]) (fun s=>[]) [(2,_),(7,_),(9,_),(11,_)] [(7,_)] (fun _ A24 _ _=>?_) ?_
         ·refine l8 hn ?_;refine l6 h93 (fun hb95 h93=>?_) (fun hb95 h93=>?_)
          ·refine q9 hn ?_;refine A24 _ _ ?_;exact jn ⟨_,sj h93⟩ []
          refine q8 hn ?_;refine A24 _ _ ?_;exact jn ⟨_,sj h93⟩ []
         rintro ⟨v92,hv_⟩;replace hv_:=hv_.symm;subst hv_;refine A23 _ _ ?_;refine l8 hn ?_;refine l6 h87 (fun hb96 h87=>?_) (fun hb96 h87=>?_)
         ·refine C9 hn (by kernel_rfl) ?_;refine w9 (fun _=>?_);obtain ⟨r98,hr99,h87⟩:=j4 h87;show l5 _ _ _ _ _;refine cA (aG0 N a3.a (a2.code.length:Int) r98 hr99) ?_;refine A22 _ _ ?_;exact jn ⟨_,sj h87⟩ []
         refine j6 hn ?_;refine got hn ?_;refine R22 _ _ ?_;refine R20 _ _ ?_;refine R18 _ _ ?_;refine R17 _ _ ?_;refine R14 _ _ ?_;refine R11 _ _ ?_;refine R10 _ _ ?_;refine R2 _ _ ?_;refine R1 _ _ ?_;refine R0 _ _ ?_;obtain rfl:=oI h87;obtain rfl:=oI h76;obtain rfl:=oI h67;obtain rfl:=oI h58;obtain rfl:=oI h47;obtain rfl:=oI h36;obtain rfl:=oI h31;obtain rfl:=oI h3;obtain rfl:=oI h;exact ⟨[],_,fm⟩
        rintro ⟨⟨v85,v86⟩,rfl⟩;refine A20 _ _ ?_;exact jn ⟨_,sj h76⟩ []
       rintro ⟨⟨v74,v75⟩,rfl⟩;refine A18 _ _ ?_;exact jn ⟨_,sj h67⟩ []
      rintro ⟨⟨v65,v66⟩,rfl⟩;refine A17 _ _ ?_;exact jn ⟨_,sj h58⟩ []
     rintro ⟨⟨v56,v57⟩,rfl⟩;refine A14 _ _ ?_;exact jn ⟨_,sj h47⟩ []
    rintro ⟨⟨v45,v46⟩,rfl⟩;refine A11 _ _ ?_;exact jn ⟨_,sj h36⟩ []
   rintro ⟨⟨v34,v35⟩,rfl⟩;refine A10 _ _ ?_;exact jn ⟨_,sj h31⟩ []
  rintro ⟨⟨v29,v30⟩,rfl⟩;refine A2 _ _ ?_;refine A1 _ _ ?_;exact jn ⟨_,sj h3⟩ []
 rintro ⟨⟨v1,v2⟩,rfl⟩;refine A0 _ _ ?_;refine j5.seqQ fun _ A25 _ R25=>?_;refine j5.blkQ fun _ A26 _ _ R26=>?_;refine j6 hn ?_;refine l8 hn ?_;refine l6 h (fun hb100 h=>?_) (fun hb100 h=>?_)
 ·refine j6 hn ?_;refine got hn ?_;refine R26 _ _ ?_;refine R25 _ _ ?_;obtain rfl:=oI h;exact ⟨[],_,fm⟩
 refine j5.seqQ fun _ A27 _ _=>?_;obtain ⟨o103,h102,h⟩:=j4 h;refine jk (ι:={ s // o103=s }) hn (fun s=>[(109,.bool s.1)]) (fun s=>[]) [] [] (fun _ A28 _ _=>?_) ?_
 ·refine q8 hn ?_;refine l6 h102 (fun hb104 h102=>?_) (fun hb104 h102=>?_)
  ·refine j3 hb104 ?_;refine j3 hb104 ?_;obtain ⟨r105,hr106,h102⟩:=j4 h102;show l5 _ _ _ _ _;refine cA (aQ9 N a3.name r105 hr106) ?_;refine j3 hb104 ?_;refine j3 hb104 ?_;refine l6 h102 (fun hb107 h102=>?_) (fun hb107 h102=>?_)
   ·refine j3 hb107 ?_;refine j3 hb107 ?_;refine j3 hb107 ?_;refine j3 hb107 ?_;refine A28 _ _ ?_;exact jn ⟨_,sj h102⟩ []
   refine d9 hb107 ?_;refine d9 hb107 ?_;refine l6 h102 (fun hb108 h102=>?_) (fun hb108 h102=>?_)
   ·refine j3 hb108 ?_;refine j3 hb108 ?_;refine d9 hb107 ?_;refine j3 hb108 ?_;refine d9 hb107 ?_;refine l6 h102 (fun hb109 h102=>?_) (fun hb109 h102=>?_)
    ·refine j3 hb109 ?_;refine j3 hb109 ?_;refine j3 hb109 ?_;refine A28 _ _ ?_;exact jn ⟨_,sj h102⟩ []
    refine d9 hb109 ?_;refine d9 hb109 ?_;refine d9 hb109 ?_;refine l6 h102 (fun hb110 h102=>?_) (fun hb110 h102=>?_)
    ·refine j3 hb110 ?_;refine j3 hb110 ?_;refine j3 hb110 ?_;refine A28 _ _ ?_;exact jn ⟨_,sj h102⟩ []
    refine d9 hb110 ?_;refine d9 hb110 ?_;refine d9 hb110 ?_;refine A28 _ _ ?_;exact jn ⟨_,sj h102⟩ []
   refine d9 hb108 ?_;refine d9 hb108 ?_;refine d9 hb107 ?_;refine d9 hb108 ?_;refine d9 hb107 ?_;refine l6 h102 (fun hb111 h102=>?_) (fun hb111 h102=>?_)
   ·refine j3 hb111 ?_;refine j3 hb111 ?_;refine j3 hb111 ?_;refine A28 _ _ ?_;exact jn ⟨_,sj h102⟩ []
   refine d9 hb111 ?_;refine d9 hb111 ?_;refine d9 hb111 ?_;refine A28 _ _ ?_;exact jn ⟨_,sj h102⟩ []
  refine d9 hb104 ?_;refine d9 hb104 ?_;refine d9 hb104 ?_;refine d9 hb104 ?_;refine l6 h102 (fun hb112 h102=>?_) (fun hb112 h102=>?_)
  ·refine j3 hb112 ?_;refine j3 hb112 ?_;refine j3 hb112 ?_;refine l6 h102 (fun hb113 h102=>?_) (fun hb113 h102=>?_)
   ·refine j3 hb113 ?_;refine j3 hb113 ?_;refine j3 hb113 ?_;refine A28 _ _ ?_;exact jn ⟨_,sj h102⟩ []
   refine d9 hb113 ?_;refine d9 hb113 ?_;refine d9 hb113 ?_;refine l6 h102 (fun hb114 h102=>?_) (fun hb114 h102=>?_)
   ·refine j3 hb114 ?_;refine j3 hb114 ?_;refine j3 hb114 ?_;refine A28 _ _ ?_;exact jn ⟨_,sj h102⟩ []
   refine d9 hb114 ?_;refine d9 hb114 ?_;refine d9 hb114 ?_;refine A28 _ _ ?_;exact jn ⟨_,sj h102⟩ []
  refine d9 hb112 ?_;refine d9 hb112 ?_;refine d9 hb112 ?_;refine l6 h102 (fun hb115 h102=>?_) (fun hb115 h102=>?_)
  ·refine j3 hb115 ?_;refine j3 hb115 ?_;refine j3 hb115 ?_;refine A28 _ _ ?_;exact jn ⟨_,sj h102⟩ []
  refine d9 hb115 ?_;refine d9 hb115 ?_;refine d9 hb115 ?_;refine A28 _ _ ?_;exact jn ⟨_,sj h102⟩ []
 rintro ⟨v101,hv_⟩;replace hv_:=hv_.symm;subst hv_;refine A27 _ _ ?_;refine l8 hn ?_;refine l6 h (fun hb116 h=>?_) (fun hb116 h=>?_)
 ·refine j6 hn ?_;refine got hn ?_;refine R26 _ _ ?_;refine R25 _ _ ?_;obtain rfl:=oI h;exact ⟨[],_,fm⟩
 refine q9 hn ?_;refine A26 _ _ ?_;refine A25 _ _ ?_;refine j6 hn ?_;refine got hn ?_;obtain rfl:=oI h;exact ⟨[],_,fm⟩

theorem b70 (N:Nat) (a0:Ins) (r:(Int×Int)) (h:bI6 N a0=some r):Spec Tryz.prog 108 [] [.agg (I6 a0)] (.tup [.int r.1,.int r.2]) [] []:=by
 refine Spec.of u7 Tryz.func108 rfl Tryz.ntmps108 (by kernel_rfl) rfl rfl rfl fun Γ hn=>?_;unfold bI6 at h;refine j6 hn ?_;refine j5.seqQ fun _ A0 _ R0=>?_;refine j6 hn ?_;refine j5.blkQ fun _ A1 _ _ R1=>?_;refine j5.seqQ fun _ A2 _ _=>?_;refine j6 hn ?_;obtain ⟨o3,h2,h⟩:=j4 h;refine jk (ι:={ s // o3=s }) hn (fun s=>[(6,.bool s.1)]) (fun s=>[]) [(1,_),(5,_)] [(1,_)] (fun _ A3 _ _=>?_) ?_
 ·refine l8 hn ?_;refine l6 h2 (fun hb4 h2=>?_) (fun hb4 h2=>?_)
  ·refine q9 hn ?_;refine A3 _ _ ?_;exact jn ⟨_,sj h2⟩ []
  refine j6 hn ?_;obtain ⟨o7,h6,h2⟩:=j4 h2;refine jk (ι:={ s // o7=s }) hn (fun s=>[(6,.bool s.1)]) (fun s=>[]) [(1,_),(5,_)] [(1,_)] (fun _ A4 _ _=>?_) ?_
  ·refine l8 hn ?_;refine l6 h6 (fun hb8 h6=>?_) (fun hb8 h6=>?_)
   ·refine q9 hn ?_;refine A4 _ _ ?_;exact jn ⟨_,sj h6⟩ []
   refine j6 hn ?_;obtain ⟨o11,h10,h6⟩:=j4 h6;refine jk (ι:={ s // o11=s }) hn (fun s=>[(6,.bool s.1)]) (fun s=>[]) [(1,_),(5,_)] [(1,_)] (fun _ A5 _ _=>?_) ?_
   ·refine l8 hn ?_;refine l6 h10 (fun hb12 h10=>?_) (fun hb12 h10=>?_)
    ·refine q9 hn ?_;refine A5 _ _ ?_;exact jn ⟨_,sj h10⟩ []
    refine j6 hn ?_;obtain ⟨o15,h14,h10⟩:=j4 h10;refine jk (ι:={ s // o15=s }) hn (fun s=>[(6,.bool s.1)]) (fun s=>[]) [(1,_),(5,_)] [(1,_)] (fun _ A6 _ _=>?_) ?_
    ·refine l8 hn ?_;refine l6 h14 (fun hb16 h14=>?_) (fun hb16 h14=>?_)
     ·refine q9 hn ?_;refine A6 _ _ ?_;exact jn ⟨_,sj h14⟩ []
     refine q8 hn ?_;refine A6 _ _ ?_;exact jn ⟨_,sj h14⟩ []
    rintro ⟨v13,hv_⟩;replace hv_:=hv_.symm;subst hv_;refine A5 _ _ ?_;exact jn ⟨_,sj h10⟩ []
   rintro ⟨v9,hv_⟩;replace hv_:=hv_.symm;subst hv_;refine A4 _ _ ?_;exact jn ⟨_,sj h6⟩ []
  rintro ⟨v5,hv_⟩;replace hv_:=hv_.symm;subst hv_;refine A3 _ _ ?_;exact jn ⟨_,sj h2⟩ []
 rintro ⟨v1,hv_⟩;replace hv_:=hv_.symm;subst hv_;refine A2 _ _ ?_;refine l8 hn ?_;refine l6 h (fun hb17 h=>?_) (fun hb17 h=>?_)
 ·refine j6 hn ?_;refine got hn ?_;refine R1 _ _ ?_;refine R0 _ _ ?_;obtain rfl:=oI h;exact ⟨[],_,fm⟩
 refine j6 hn ?_;refine l8 hn ?_;refine l6 h (fun hb18 h=>?_) (fun hb18 h=>?_)
 ·refine j6 hn ?_;refine got hn ?_;refine R1 _ _ ?_;refine R0 _ _ ?_;obtain rfl:=oI h;exact ⟨[],_,fm⟩
 refine j6 hn ?_;refine l8 hn ?_;refine l6 h (fun hb19 h=>?_) (fun hb19 h=>?_)
 ·refine j6 hn ?_;refine Or.inr ?_;refine got hn ?_;refine R1 _ _ ?_;refine R0 _ _ ?_;obtain rfl:=oI h;exact ⟨[],_,fm⟩
 refine j6 hn ?_;refine l8 hn ?_;refine l6 h (fun hb20 h=>?_) (fun hb20 h=>?_)
 ·refine j6 hn ?_;refine got hn ?_;refine R1 _ _ ?_;refine R0 _ _ ?_;obtain rfl:=oI h;exact ⟨[],_,fm⟩
 refine q9 hn ?_;refine A1 _ _ ?_;refine A0 _ _ ?_;refine j6 hn ?_;refine got hn ?_;obtain rfl:=oI h;exact ⟨[],_,fm⟩

theorem b24 (N:Nat) (a0:Me) (r:((List Int)×aD7)) (h:a09 N a0=some r):Spec Tryz.prog 75 [] [.agg (J3 a0)] (.tup [.own 0,.agg (cH8 r.2)]) [(0,.row 1 (List.map H9 r.1) 3)] [0]:=by
 refine Spec.of u7 Tryz.func75 rfl Tryz.ntmps75 (by kernel_rfl) rfl rfl rfl fun Γ hn=>?_;unfold a09 at h;refine j6 hn ?_;refine j6 hn ?_;refine w9 (fun _=>?_);obtain ⟨hg2,h⟩:=C8 h;refine mkM (enc:=H9) (x:=(0:Int)) hg2 aT ?_;refine j5.seqQ fun _ A0 _ _=>?_;refine j6 hn ?_;refine w9 (fun _=>?_);refine j5.rng 17 rfl (fun hrn4=>?_);obtain ⟨o8,h9,h⟩:=j4 h;refine jk (ι:={ s // o8=s }) hn (fun s=>[]) (fun s=>[(15,.row 1 (List.map H9 s.1) 3)]) [(1,_),(3,_),(4,_)] [(1,_),(3,_)] (fun _ A1 _ _=>?_) ?_
 ·refine j5.blkQ fun _ _ E2 _ _=>?_;refine lq (ι:={ q:(Nat×Nat×(List Int)) // q.1=(((List.replicate (a0.code.length:Int).toNat (0:Int)).length:Int) - (q.2.1:Int)).toNat∧aK3 N q.1 q.2.1 q.2.2=some o8 }) hn (fun q=>[(18,.int (q.1.2.1:Int))]) (fun q=>[(15,.row 1 (List.map H9 q.1.2.2) 3)]) (fun q=>q.1.1) [(1,_),(3,_),(4,_),(17,_)] [(1,_),(3,_)] ⟨((((List.replicate (a0.code.length:Int).toNat (0:Int)).length:Int) - ((0:Nat):Int)).toNat,0,(List.replicate (a0.code.length:Int).toNat (0:Int))),rfl,h9⟩ [] ?_;rintro ⟨⟨n_,k4,v5⟩,hd11,h9⟩ _ A3 X3 _;replace hd11:n_=(((List.replicate (a0.code.length:Int).toNat (0:Int)).length:Int) - (k4:Int)).toNat:=hd11;rcases n_ with _|n12
  ·have hlt15:=bH8 hd11;replace h9:=(aK3.eq_1 _ _ _).symm.trans h9;refine j6 hn ?_;refine j5.seqQ fun _ _ X4 _=>?_;refine l8 hn ?_;refine d9 hlt15 ?_;refine F8 hn ?_;refine X4 _ _ _ ?_;refine X3 _ _ _ ?_;refine E2 _ _ ?_;refine A1 _ _ ?_;exact jn ⟨_,sj h9⟩ []
  ·obtain ⟨hd2,hlt15⟩:=bA2 hd11;replace h9:=(aK3.eq_2 _ _ _ _).symm.trans h9;refine j6 hn ?_;refine j5.seqQ fun _ A5 _ _=>?_;refine l8 hn ?_;refine j3 hlt15 ?_;refine q9 hn ?_;refine A5 _ _ ?_;refine j5.seqQ fun _ A6 _ _=>?_;refine j5.blkQ fun _ A7 _ _ _=>?_;refine j6 hn ?_;refine q8 hn ?_;obtain ⟨x16,hx17,h9⟩:=j4 h9;refine O8 hx17 ?_;refine I7 (u6 hx17).2 ?_;refine Exists.intro (List.map H9 (v5.set ((k4:Int).toNat) (-1:Int))) (And.intro (aI7 (u6 hx17).2 aT) ?_);refine A7 _ _ ?_;refine A6 _ _ ?_;refine q8 hn ?_;refine Or.inl (And.intro (bQ7 hlt15 hrn4) ?_);refine A3 _ _ ?_;exact jn ⟨(n12,k4+1,(v5.set ((k4:Int).toNat) (-1:Int))),hd2,h9⟩ [] (by show n12 < n12+1; omega)
 rintro ⟨v7,hv_⟩;replace hv_:=hv_.symm;subst hv_;refine A0 _ _ ?_;refine j6 hn ?_;refine Exists.intro (List.map aY1 [(⟨(0:Int),(0:Int)⟩:aC2)]) (And.intro aT ?_);refine j5.seqQ fun _ A8 _ R8=>?_;obtain ⟨o24,h25,h⟩:=j4 h;refine jk (ι:={ s // o24=F9.next s }) hn (fun s=>[]) (fun s=>[(15,.row 1 (List.map H9 s.1) 3)]) [(3,_),(4,_)] [(3,_)] (fun _ A9 _ R9=>?_) ?_
 ·refine j5.blkQ fun _ _ E10 _ R10=>?_;refine lq (ι:={ q:(Nat×(List Int)×(List aC2)) // aK6 N a0 q.1 q.2.1 q.2.2=some o24 }) hn (fun q=>[]) (fun q=>[(15,.row 1 (List.map H9 q.1.2.1) 3),(26,.row 2 (List.map aY1 q.1.2.2) 184)]) (fun q=>q.1.1) [(1,_),(3,_),(4,_),(6,_)] [(1,_),(3,_)] ⟨(N,v7,[(⟨(0:Int),(0:Int)⟩:aC2)]),h25⟩ [] ?_;rintro ⟨⟨n_,v19,v20⟩,h25⟩ _ A11 X11 R11;rcases n_ with _|n28
  ·rw [aK6.eq_1] at h25;cases h25
  ·replace h25:=(aK6.eq_2 _ _ _ _ _).symm.trans h25;refine j5.seqQ fun _ A12 X12 _=>?_;refine j6 hn ?_;refine w9 (fun _=>?_);refine l8 hn ?_;refine l6 h25 (fun hb30 h25=>?_) (fun hb30 h25=>?_)
   ·refine q9 hn ?_;refine A12 _ _ ?_;obtain ⟨o34,h33,h25⟩:=j4 h25;refine jk (ι:={ s // o34=F9.next s }) hn (fun s=>[(6,.own 39)]) (fun s=>[(15,.row 1 (List.map H9 s.1.1) 3),(39,.row 2 (List.map aY1 s.1.2) 184)]) [(1,_),(3,_),(4,_)] [(1,_),(3,_)] (fun _ A13 _ R13=>?_) ?_
    ·refine j5.blkQ fun _ A14 E14 _ R14=>?_;refine j5.seqQ fun _ A15 _ _=>?_;refine C9 hn (by kernel_rfl) ?_;obtain ⟨x35,hx36,h33⟩:=j4 h33;refine O8 hx36 ?_;refine And.intro (by decide) (And.intro (by decide) ?_);refine I7 (u6 hx36).2 ?_;obtain ⟨x37,hx38,h33⟩:=j4 h33;refine O8 hx38 ?_;refine And.intro (by decide) (And.intro (by decide) ?_);refine I7 (u6 hx38).2 ?_;refine A15 _ _ ?_;refine kp [(1,_),(3,_),(4,_),(6,_),(7,_),(8,_)] [(1,_),(3,_),(15,_),(26,_)] ?_;refine j6 hn ?_;obtain ⟨hg39,h33⟩:=C8 h33;refine c90 hg39 rfl rfl ?_;refine j5.seqQ fun _ A16 _ R16=>?_;refine j5.seqQ fun _ A17 _ _=>?_;obtain ⟨o42,h41,h33⟩:=j4 h33;refine jk (ι:={ s // o42=s }) hn (fun s=>[(48,.bool s.1)]) (fun s=>[]) [(1,_),(3,_),(4,_),(6,_),(7,_),(8,_)] [(1,_),(3,_),(15,_),(39,_)] (fun _ A18 _ _=>?_) ?_
     ·refine q8 hn ?_;refine l6 h41 (fun hb43 h41=>?_) (fun hb43 h41=>?_)
      ·refine j3 hb43 ?_;refine j3 hb43 ?_;refine j3 hb43 ?_;refine j3 hb43 ?_;refine j3 hb43 ?_;refine A18 _ _ ?_;exact jn ⟨_,sj h41⟩ []
      refine d9 hb43 ?_;refine d9 hb43 ?_;refine d9 hb43 ?_;refine w9 (fun _=>?_);refine d9 hb43 ?_;refine d9 hb43 ?_;refine A18 _ _ ?_;exact jn ⟨_,sj h41⟩ []
     rintro ⟨v40,hv_⟩;replace hv_:=hv_.symm;subst hv_;refine A17 _ _ ?_;refine l8 hn ?_;refine l6 h33 (fun hb45 h33=>?_) (fun hb45 h33=>?_)
     ·refine j5.seqQ fun _ A19 _ _=>?_;refine C9 hn (by kernel_rfl) ?_;refine w9 (fun _=>?_);refine A19 _ _ ?_;refine j5.nilrow 2 202 1 3 rfl rfl rfl ?_;refine got hn ?_;refine R16 _ _ ?_;refine R14 _ _ ?_;refine R13 _ _ ?_;refine R11 _ _ ?_;refine R10 _ _ ?_;refine R9 _ _ ?_;refine R8 _ _ ?_;obtain rfl:=oI h33;obtain rfl:=oI h25;obtain rfl:=oI h;exact ⟨[(0,202)],_,fm⟩
     refine q9 hn ?_;refine A16 _ _ ?_;refine j5.seqQ fun _ A20 X20 R20=>?_;refine j6 hn ?_;obtain ⟨x47,hx48,h33⟩:=j4 h33;refine O8 hx48 ?_;refine I7 (u6 hx48).2 ?_;refine l8 hn ?_;refine l6 h33 (fun hb49 h33=>?_) (fun hb49 h33=>?_)
     ·refine j5.seqQ fun _ A21 _ R21=>?_;refine j6 hn ?_;obtain ⟨x50,hx51,h33⟩:=j4 h33;refine O8 hx51 ?_;refine I7 (u6 hx51).2 ?_;refine l8 hn ?_;refine l6 h33 (fun hb52 h33=>?_) (fun hb52 h33=>?_)
      ·refine kp [(3,_),(7,_)] [(3,_)] ?_;refine j6 hn ?_;refine j5.nilrow 2 202 1 3 rfl rfl rfl ?_;refine got hn ?_;refine R21 _ _ ?_;refine R20 _ _ ?_;refine R14 _ _ ?_;refine R13 _ _ ?_;refine R11 _ _ ?_;refine R10 _ _ ?_;refine R9 _ _ ?_;refine R8 _ _ ?_;obtain rfl:=oI h33;obtain rfl:=oI h25;obtain rfl:=oI h;exact ⟨[(0,202)],_,fm⟩
      refine q9 hn ?_;refine A21 _ _ ?_;refine F8 hn ?_;refine X20 _ _ _ ?_;refine E14 _ _ ?_;refine A13 _ _ ?_;exact jn ⟨_,sj h33⟩ []
     refine q9 hn ?_;refine A20 _ _ ?_;refine j6 hn ?_;obtain ⟨x53,hx54,h33⟩:=j4 h33;refine O8 hx54 ?_;refine I7 (u6 hx54).2 ?_;refine Exists.intro (List.map H9 (v19.set x35.f0.toNat x37.f1)) (And.intro (aI7 (u6 hx54).2 aT) ?_);refine j6 hn ?_;obtain ⟨x55,hx56,h33⟩:=j4 h33;refine K6 hx56 ?_;refine kp [(1,_),(3,_),(4,_),(6,_),(7,_),(8,_),(9,_)] [(1,_),(3,_),(9,_),(15,_),(39,_)] ?_;refine j6 hn ?_;obtain ⟨r57,hr58,h33⟩:=j4 h33;show l5 _ _ _ _ _;refine cA (b70 N x55 r57 hr58) ?_;refine j5.seqQ fun _ A22 _ R22=>?_;refine j5.seqQ fun _ A23 _ _=>?_;obtain ⟨o61,h60,h33⟩:=j4 h33;refine jk (ι:={ s // o61=s }) hn (fun s=>[(91,.bool s.1)]) (fun s=>[]) [(1,_),(3,_),(4,_),(6,_),(7,_),(8,_),(9,_),(10,_),(11,_)] [(1,_),(3,_),(9,_),(15,_),(39,_)] (fun _ A24 _ _=>?_) ?_
     ·refine q8 hn ?_;refine l6 h60 (fun hb62 h60=>?_) (fun hb62 h60=>?_)
      ·refine j3 hb62 ?_;refine j3 hb62 ?_;refine j3 hb62 ?_;refine j3 hb62 ?_;refine j3 hb62 ?_;refine A24 _ _ ?_;exact jn ⟨_,sj h60⟩ []
      refine d9 hb62 ?_;refine d9 hb62 ?_;refine d9 hb62 ?_;refine l6 h60 (fun hb63 h60=>?_) (fun hb63 h60=>?_)
      ·refine j3 hb63 ?_;refine d9 hb62 ?_;refine j3 hb63 ?_;refine d9 hb62 ?_;refine A24 _ _ ?_;exact jn ⟨_,sj h60⟩ []
      refine d9 hb63 ?_;refine d9 hb62 ?_;refine d9 hb63 ?_;refine d9 hb62 ?_;refine A24 _ _ ?_;exact jn ⟨_,sj h60⟩ []
     rintro ⟨v59,hv_⟩;replace hv_:=hv_.symm;subst hv_;refine A23 _ _ ?_;refine l8 hn ?_;refine l6 h33 (fun hb64 h33=>?_) (fun hb64 h33=>?_)
     ·refine j6 hn ?_;refine j5.nilrow 2 202 1 3 rfl rfl rfl ?_;refine got hn ?_;refine R22 _ _ ?_;refine R14 _ _ ?_;refine R13 _ _ ?_;refine R11 _ _ ?_;refine R10 _ _ ?_;refine R9 _ _ ?_;refine R8 _ _ ?_;obtain rfl:=oI h33;obtain rfl:=oI h25;obtain rfl:=oI h;exact ⟨[(0,202)],_,fm⟩
     refine q9 hn ?_;refine A22 _ _ ?_;refine j6 hn ?_;refine Or.inr ?_;refine Or.inr ?_;refine j5.seqQ fun _ A25 _ R25=>?_;refine j6 hn ?_;refine l8 hn ?_;refine l6 h33 (fun hb65 h33=>?_) (fun hb65 h33=>?_)
     ·refine kp [(3,_),(7,_)] [(3,_)] ?_;refine j6 hn ?_;refine j5.nilrow 2 202 1 3 rfl rfl rfl ?_;refine got hn ?_;refine R25 _ _ ?_;refine R14 _ _ ?_;refine R13 _ _ ?_;refine R11 _ _ ?_;refine R10 _ _ ?_;refine R9 _ _ ?_;refine R8 _ _ ?_;obtain rfl:=oI h33;obtain rfl:=oI h25;obtain rfl:=oI h;exact ⟨[(0,202)],_,fm⟩
     refine q9 hn ?_;refine A25 _ _ ?_;refine j5.seqQ fun _ A26 _ _=>?_;refine j5.seqQ fun _ A27 _ _=>?_;obtain ⟨o68,h67,h33⟩:=j4 h33;refine jk (ι:={ s // o68=s }) hn (fun s=>[(110,.bool s.1)]) (fun s=>[]) [(1,_),(3,_),(4,_),(6,_),(7,_),(8,_),(9,_)] [(1,_),(3,_),(9,_),(15,_),(39,_)] (fun _ A28 _ _=>?_) ?_
     ·refine kp [(1,_),(3,_),(4,_),(6,_),(7,_),(8,_),(9,_)] [(1,_),(3,_),(9,_),(15,_),(39,_)] ?_;refine q8 hn ?_;refine l6 h67 (fun hb69 h67=>?_) (fun hb69 h67=>?_)
      ·refine j3 hb69 ?_;refine j3 hb69 ?_;refine j3 hb69 ?_;refine A28 _ _ ?_;exact jn ⟨_,sj h67⟩ []
      refine d9 hb69 ?_;refine d9 hb69 ?_;refine d9 hb69 ?_;refine A28 _ _ ?_;exact jn ⟨_,sj h67⟩ []
     rintro ⟨v66,hv_⟩;replace hv_:=hv_.symm;subst hv_;refine A27 _ _ ?_;obtain ⟨o72,h71,h33⟩:=j4 h33;refine jk (ι:={ s // o72=s }) hn (fun s=>[(6,.own 117)]) (fun s=>[(117,.row 2 (List.map aY1 s.1) 184)]) [(1,_),(3,_),(4,_),(8,_),(9,_)] [(1,_),(3,_),(9,_),(15,_)] (fun _ A29 _ _=>?_) ?_
     ·refine l8 hn ?_;refine l6 h71 (fun hb73 h71=>?_) (fun hb73 h71=>?_)
      ·refine q8 hn ?_;refine Or.inr ?_;refine Exists.intro (List.map aY1 [(⟨(wr (x35.f0+(1:Int))),(wr (x37.f1+(wr (r57.2 - r57.1))))⟩:aC2)]) (And.intro aT ?_);obtain ⟨hg74,h71⟩:=C8 h71;refine Y2 (l2:=[(⟨(wr (x35.f0+(1:Int))),(wr (x37.f1+(wr (r57.2 - r57.1))))⟩:aC2)]) hg74 (y9 _) ?_;refine A29 _ _ ?_;exact jn ⟨_,sj h71⟩ []
      refine q9 hn ?_;refine A29 _ _ ?_;exact jn ⟨_,sj h71⟩ [(117,39)]
     rintro ⟨v70,hv_⟩;replace hv_:=hv_.symm;subst hv_;refine A26 _ _ ?_;refine j5.seqQ fun _ A30 _ _=>?_;obtain ⟨o77,h76,h33⟩:=j4 h33;refine jk (ι:={ s // o77=s }) hn (fun s=>[(125,.bool s.1)]) (fun s=>[]) [(1,_),(3,_),(4,_),(6,_),(8,_),(9,_)] [(1,_),(3,_),(9,_),(15,_),(117,_)] (fun _ A31 _ _=>?_) ?_
     ·refine q8 hn ?_;refine l6 h76 (fun hb78 h76=>?_) (fun hb78 h76=>?_)
      ·refine j3 hb78 ?_;refine j3 hb78 ?_;refine j3 hb78 ?_;refine A31 _ _ ?_;exact jn ⟨_,sj h76⟩ []
      refine d9 hb78 ?_;refine d9 hb78 ?_;refine d9 hb78 ?_;refine A31 _ _ ?_;exact jn ⟨_,sj h76⟩ []
     rintro ⟨v75,hv_⟩;replace hv_:=hv_.symm;subst hv_;refine A30 _ _ ?_;obtain ⟨o81,h80,h33⟩:=j4 h33;refine jk (ι:={ s // o81=s }) hn (fun s=>[(6,.own 132)]) (fun s=>[(132,.row 2 (List.map aY1 s.1) 184)]) [(1,_),(3,_),(4,_)] [(1,_),(3,_),(15,_)] (fun _ A32 _ _=>?_) ?_
     ·refine l8 hn ?_;refine l6 h80 (fun hb82 h80=>?_) (fun hb82 h80=>?_)
      ·refine q8 hn ?_;refine Exists.intro (List.map aY1 [(⟨x55.a,(wr (x37.f1+(wr (r57.2 - r57.1))))⟩:aC2)]) (And.intro aT ?_);obtain ⟨hg83,h80⟩:=C8 h80;refine Y2 (l2:=[(⟨x55.a,(wr (x37.f1+(wr (r57.2 - r57.1))))⟩:aC2)]) hg83 (y9 _) ?_;refine A32 _ _ ?_;exact jn ⟨_,sj h80⟩ []
      refine q9 hn ?_;refine A32 _ _ ?_;exact jn ⟨_,sj h80⟩ [(132,117)]
     rintro ⟨v79,hv_⟩;replace hv_:=hv_.symm;subst hv_;refine A14 _ _ ?_;refine A13 _ _ ?_;exact jn ⟨_,sj h33⟩ [(39,132)]
    rintro ⟨⟨v31,v32⟩,rfl⟩;refine A11 _ _ ?_;exact jn ⟨(n28,v31,v32),h25⟩ [(26,39)] (by show n28 < n28+1; omega)
   refine F8 hn ?_;refine X12 _ _ _ ?_;refine X11 _ _ _ ?_;refine E10 _ _ ?_;refine A9 _ _ ?_;exact jn ⟨_,sj h25⟩ []
 rintro ⟨v23,rfl⟩;refine A8 _ _ ?_;refine j6 hn ?_;refine got hn ?_;obtain rfl:=oI h;exact ⟨[(0,15)],_,fm⟩

theorem bP0 (N:Nat) (a0:Wd) (a1:Int) (a2:Me) (r:aD7) (h:aK2 N a0 a1 a2=some r):Spec Tryz.prog 39 [] [.agg (P6 a0),.int a1,.agg (J3 a2)] (.agg (cH8 r)) [] []:=by
 refine Spec.of u7 Tryz.func39 rfl Tryz.ntmps39 (by kernel_rfl) rfl rfl rfl fun Γ hn=>?_;unfold aK2 at h;refine j6 hn ?_;refine j5.seqQ fun _ A0 _ R0=>?_;refine j5.blkQ fun _ A1 _ _ R1=>?_;refine j5.seqQ fun _ A2 _ _=>?_;obtain ⟨o3,h2,h⟩:=j4 h;refine jk (ι:={ s // o3=s }) hn (fun s=>[(12,.bool s.1)]) (fun s=>[]) [(1,_),(3,_),(5,_),(6,_)] [(3,_),(5,_),(6,_)] (fun _ A3 _ _=>?_) ?_
 ·refine q8 hn ?_;refine l6 h2 (fun hb4 h2=>?_) (fun hb4 h2=>?_)
  ·refine j3 hb4 ?_;refine j3 hb4 ?_;refine j3 hb4 ?_;refine j3 hb4 ?_;refine j3 hb4 ?_;refine A3 _ _ ?_;exact jn ⟨_,sj h2⟩ []
  refine d9 hb4 ?_;refine d9 hb4 ?_;refine d9 hb4 ?_;refine w9 (fun _=>?_);refine d9 hb4 ?_;refine d9 hb4 ?_;refine A3 _ _ ?_;exact jn ⟨_,sj h2⟩ []
 rintro ⟨v1,hv_⟩;replace hv_:=hv_.symm;subst hv_;refine A2 _ _ ?_;refine l8 hn ?_;refine l6 h (fun hb6 h=>?_) (fun hb6 h=>?_)
 ·refine j6 hn ?_;refine got hn ?_;refine R1 _ _ ?_;refine R0 _ _ ?_;obtain rfl:=oI h;exact ⟨[],_,fm⟩
 refine j6 hn ?_;obtain ⟨r7,hr8,h⟩:=j4 h;show l5 _ _ _ _ _;refine cA (aQ9 N a2.name r7 hr8) ?_;refine l8 hn ?_;refine l6 h (fun hb9 h=>?_) (fun hb9 h=>?_)
 ·refine j6 hn ?_;refine got hn ?_;refine R1 _ _ ?_;refine R0 _ _ ?_;obtain rfl:=oI h;exact ⟨[],_,fm⟩
 refine j5.seqQ fun _ A4 _ _=>?_;obtain ⟨o12,h11,h⟩:=j4 h;refine jk (ι:={ s // o12=s }) hn (fun s=>[(29,.bool s.1)]) (fun s=>[]) [(1,_),(3,_),(5,_),(6,_)] [(3,_),(5,_),(6,_)] (fun _ A5 _ _=>?_) ?_
 ·refine q8 hn ?_;refine l6 h11 (fun hb13 h11=>?_) (fun hb13 h11=>?_)
  ·refine j3 hb13 ?_;refine j3 hb13 ?_;refine j3 hb13 ?_;refine A5 _ _ ?_;exact jn ⟨_,sj h11⟩ []
  refine d9 hb13 ?_;refine d9 hb13 ?_;refine d9 hb13 ?_;refine l6 h11 (fun hb14 h11=>?_) (fun hb14 h11=>?_)
  ·refine j3 hb14 ?_;refine j3 hb14 ?_;refine j3 hb14 ?_;refine A5 _ _ ?_;exact jn ⟨_,sj h11⟩ []
  refine d9 hb14 ?_;refine d9 hb14 ?_;refine d9 hb14 ?_;refine l6 h11 (fun hb15 h11=>?_) (fun hb15 h11=>?_)
  ·refine j3 hb15 ?_;refine j3 hb15 ?_;refine j3 hb15 ?_;refine A5 _ _ ?_;exact jn ⟨_,sj h11⟩ []
  refine d9 hb15 ?_;refine d9 hb15 ?_;refine d9 hb15 ?_;refine A5 _ _ ?_;exact jn ⟨_,sj h11⟩ []
 rintro ⟨v10,hv_⟩;replace hv_:=hv_.symm;subst hv_;refine A4 _ _ ?_;refine l8 hn ?_;refine l6 h (fun hb16 h=>?_) (fun hb16 h=>?_)
 ·refine j6 hn ?_;refine got hn ?_;refine R1 _ _ ?_;refine R0 _ _ ?_;obtain rfl:=oI h;exact ⟨[],_,fm⟩
 refine j6 hn ?_;refine l8 hn ?_;refine l6 h (fun hb17 h=>?_) (fun hb17 h=>?_)
 ·refine j6 hn ?_;refine got hn ?_;refine R1 _ _ ?_;refine R0 _ _ ?_;obtain rfl:=oI h;exact ⟨[],_,fm⟩
 refine j5.seqQ fun _ A6 _ _=>?_;obtain ⟨o20,h19,h⟩:=j4 h;refine jk (ι:={ s // o20=s }) hn (fun s=>[(54,.bool s.1)]) (fun s=>[]) [(1,_),(3,_),(5,_),(6,_)] [(3,_),(5,_),(6,_)] (fun _ A7 _ _=>?_) ?_
 ·refine q8 hn ?_;refine w9 (fun _=>?_);refine l6 h19 (fun hb22 h19=>?_) (fun hb22 h19=>?_)
  ·refine j3 hb22 ?_;refine j3 hb22 ?_;refine j3 hb22 ?_;refine j3 hb22 ?_;refine A7 _ _ ?_;exact jn ⟨_,sj h19⟩ []
  refine d9 hb22 ?_;refine d9 hb22 ?_;refine w9 (fun _=>?_);refine d9 hb22 ?_;refine d9 hb22 ?_;refine A7 _ _ ?_;exact jn ⟨_,sj h19⟩ []
 rintro ⟨v18,hv_⟩;replace hv_:=hv_.symm;subst hv_;refine A6 _ _ ?_;refine l8 hn ?_;refine l6 h (fun hb24 h=>?_) (fun hb24 h=>?_)
 ·refine j6 hn ?_;refine got hn ?_;refine R1 _ _ ?_;refine R0 _ _ ?_;obtain rfl:=oI h;exact ⟨[],_,fm⟩
 refine q9 hn ?_;refine A1 _ _ ?_;refine A0 _ _ ?_;refine j5.seqQ fun _ A8 _ R8=>?_;refine j6 hn ?_;refine w9 (fun hl25=>?_);refine j5.gh (Gh.fzBox 3 3 rfl rfl rfl) (fun _=>?_);refine j5.gh (Gh.fzBox 5 5 rfl rfl rfl) (fun _=>?_);obtain ⟨o27,h28,h⟩:=j4 h;refine jk (ι:={ s // o27=F9.next s }) hn (fun s=>[]) (fun s=>[]) [(5,_),(6,_)] [(6,_)] (fun _ A9 _ R9=>?_) ?_
 ·refine j5.blkQ fun _ _ E10 _ R10=>?_;refine lq (ι:={ q:((List Ins)×Nat) // q.1=a2.code.drop q.2∧aB5 N a0 a1 a2 q.1 q.2=some o27 }) hn (fun q=>[(69,.int (q.1.2:Int))]) (fun q=>[]) (fun q=>q.1.1.length) [(1,_),(3,_),(5,_),(6,_),(67,_),(68,_)] [(6,_)] ⟨(a2.code,0),rfl,h28⟩ [] ?_;rintro ⟨⟨rest_,k26⟩,hd30,h28⟩ _ A11 X11 R11;replace hd30:rest_=a2.code.drop k26:=hd30;rcases rest_ with _|⟨x32,rest29⟩
  ·have hlt34:=I8 hd30;replace h28:=(aB5.eq_1 _ _ _ _ _).symm.trans h28;refine j6 hn ?_;refine j5.seqQ fun _ _ X12 _=>?_;refine l8 hn ?_;refine d9 hlt34 ?_;refine F8 hn ?_;refine X12 _ _ _ ?_;refine X11 _ _ _ ?_;refine E10 _ _ ?_;refine A9 _ _ ?_;exact jn ⟨_,sj h28⟩ []
  ·obtain ⟨hx33,hd2,hlt34⟩:=H7 hd30;replace h28:=(aB5.eq_2 _ _ _ _ _ _ _).symm.trans h28;refine j6 hn ?_;refine j5.seqQ fun _ A13 _ _=>?_;refine l8 hn ?_;refine j3 hlt34 ?_;refine q9 hn ?_;refine A13 _ _ ?_;refine j5.seqQ fun _ A14 _ R14=>?_;refine j5.blkQ fun _ A15 _ _ R15=>?_;refine j6 hn ?_;refine Z4 hx33 ?_;refine j6 hn ?_;obtain ⟨r35,hr36,h28⟩:=j4 h28;show l5 _ _ _ _ _;refine cA (bZ2 N a0 a1 a2 x32 r35 hr36) ?_;refine kp [(1,_),(3,_),(5,_),(6,_),(7,_),(9,_),(67,_),(68,_),(69,_)] [(6,_)] ?_;refine j6 hn ?_;refine l8 hn ?_;refine l6 h28 (fun hb37 h28=>?_) (fun hb37 h28=>?_)
   ·refine j6 hn ?_;refine got hn ?_;refine R15 _ _ ?_;refine R14 _ _ ?_;refine R11 _ _ ?_;refine R10 _ _ ?_;refine R9 _ _ ?_;refine R8 _ _ ?_;obtain rfl:=oI h28;obtain rfl:=oI h;exact ⟨[],_,fm⟩
   refine q9 hn ?_;refine A15 _ _ ?_;refine A14 _ _ ?_;refine q8 hn ?_;refine Or.inl (And.intro (V7 hx33 hl25) ?_);refine A11 _ _ ?_;exact jn ⟨(rest29,k26+1),hd2,h28⟩ [] (by show rest29.length < rest29.length+1; omega)
 rintro ⟨⟨⟩,rfl⟩;refine A8 _ _ ?_;refine j6 hn ?_;obtain ⟨r38,hr39,h⟩:=j4 h;show l5 _ _ _ _ _;refine cA ((b24 N a2 r38 hr39).sw 0 85) ?_;refine j6 hn ?_;refine got hn ?_;obtain rfl:=oI h;exact ⟨[],_,fm⟩

theorem V6 (N:Nat) (a0:(List Me)) (a1:ByteArray) (g2:Me→ByteArray→Option Int) {K2:Nat} (hg2:∀x0_ x1_ y_,g2 x0_ x1_=some y_→Spec Tryz.prog K2 [] [.agg (J3 x0_),.str x1_] (.int y_) [] []) (r:(Int×Bool)) (h:K8 N a0 a1 g2=some r):Spec Tryz.prog 106 [] [.sl 5 (List.map J3 a0),.str a1,.fn K2 []] (.tup [.int r.1,.bool r.2]) [] []:=by
 refine Spec.of u7 Tryz.func106 rfl Tryz.ntmps106 (by kernel_rfl) rfl rfl rfl fun Γ hn=>?_;unfold K8 at h;refine j6 hn ?_;refine j6 hn ?_;refine w9 (fun _=>?_);refine j6 hn ?_;refine j5.seqQ fun _ A0 _ _=>?_;obtain ⟨o8,h9,h⟩:=j4 h;refine jk (ι:={ s // o8=s }) hn (fun s=>[(9,.int s.1)]) (fun s=>[]) [(0,_),(1,_),(2,_),(8,_)] [] (fun _ A1 _ _=>?_) ?_
 ·refine j5.blkQ fun _ _ E2 _ _=>?_;refine lq (ι:={ q:(Nat×Int×Int) // H5 N a0 a1 g2 q.1 q.2.1 q.2.2=some o8 }) hn (fun q=>[(9,.int q.1.2.1),(10,.int q.1.2.2)]) (fun q=>[]) (fun q=>q.1.1) [(0,_),(1,_),(2,_),(8,_)] [] ⟨(N,(0:Int),(a0.length:Int)),h9⟩ [] ?_;rintro ⟨⟨n_,v3,v4⟩,h9⟩ _ A3 X3 _;rcases n_ with _|n12
  ·rw [H5.eq_1] at h9;cases h9
  ·replace h9:=(H5.eq_2 _ _ _ _ _ _ _).symm.trans h9;refine j5.seqQ fun _ A4 X4 _=>?_;refine j6 hn ?_;refine l8 hn ?_;refine l6 h9 (fun hb13 h9=>?_) (fun hb13 h9=>?_)
   ·refine q9 hn ?_;refine A4 _ _ ?_;obtain ⟨o17,h16,h9⟩:=j4 h9;refine jk (ι:={ s // o17=s }) hn (fun s=>[(9,.int s.1.1),(10,.int s.1.2)]) (fun s=>[]) [(0,_),(1,_),(2,_),(8,_)] [] (fun _ A5 _ _=>?_) ?_
    ·refine j5.blkQ fun _ A6 _ _ _=>?_;refine j6 hn ?_;refine Or.inr ?_;obtain ⟨hg18,h16⟩:=C8 h16;refine c27 hg18 ?_;refine And.intro rfl ?_;refine And.intro rfl ?_;obtain ⟨hg19,h16⟩:=C8 h16;refine c27 hg19 ?_;refine j6 hn ?_;obtain ⟨x20,hx21,h16⟩:=j4 h16;refine K6 hx21 ?_;obtain ⟨r22,hr23,h16⟩:=j4 h16;show l5 _ _ _ _ _;refine cA (hg2 _ _ _ hr23) ?_;obtain ⟨o27,h26,h16⟩:=j4 h16;refine jk (ι:={ s // o27=s }) hn (fun s=>[(9,.int s.1.1),(10,.int s.1.2)]) (fun s=>[]) [(0,_),(1,_),(2,_),(8,_)] [] (fun _ A7 _ _=>?_) ?_
     ·refine l8 hn ?_;refine l6 h26 (fun hb28 h26=>?_) (fun hb28 h26=>?_)
      ·refine kp [(0,_),(1,_),(2,_),(8,_),(10,_),(11,_)] [] ?_;refine q8 hn ?_;refine Or.inr ?_;refine A7 _ _ ?_;exact jn ⟨_,sj h26⟩ []
      refine kp [(0,_),(1,_),(2,_),(8,_),(9,_),(11,_)] [] ?_;refine q8 hn ?_;refine A7 _ _ ?_;exact jn ⟨_,sj h26⟩ []
     rintro ⟨⟨v24,v25⟩,rfl⟩;refine A6 _ _ ?_;refine A5 _ _ ?_;exact jn ⟨_,sj h16⟩ []
    rintro ⟨⟨v14,v15⟩,rfl⟩;refine A3 _ _ ?_;exact jn ⟨(n12,v14,v15),h9⟩ [] (by show n12 < n12+1; omega)
   refine F8 hn ?_;refine X4 _ _ _ ?_;refine X3 _ _ _ ?_;refine E2 _ _ ?_;refine A1 _ _ ?_;exact jn ⟨_,sj h9⟩ []
 rintro ⟨v7,hv_⟩;replace hv_:=hv_.symm;subst hv_;refine A0 _ _ ?_;refine j5.seqQ fun _ A8 _ _=>?_;obtain ⟨o31,h30,h⟩:=j4 h;refine jk (ι:={ s // o31=s }) hn (fun s=>[(6,.int v7),(7,.bool s.1)]) (fun s=>[]) [] [] (fun _ A9 _ _=>?_) ?_
 ·refine q8 hn ?_;refine l6 h30 (fun hb32 h30=>?_) (fun hb32 h30=>?_)
  ·refine j3 hb32 ?_;refine j3 hb32 ?_;refine j3 hb32 ?_;obtain ⟨x33,hx34,h30⟩:=j4 h30;refine K6 hx34 ?_;refine j3 hb32 ?_;refine j3 hb32 ?_;refine j3 hb32 ?_;obtain ⟨r35,hr36,h30⟩:=j4 h30;show l5 _ _ _ _ _;refine cA (hg2 _ _ _ hr36) ?_;refine j3 hb32 ?_;refine j3 hb32 ?_;refine A9 _ _ ?_;exact jn ⟨_,sj h30⟩ []
  refine d9 hb32 ?_;refine d9 hb32 ?_;refine d9 hb32 ?_;refine d9 hb32 ?_;refine d9 hb32 ?_;refine d9 hb32 ?_;refine d9 hb32 ?_;refine d9 hb32 ?_;refine A9 _ _ ?_;exact jn ⟨_,sj h30⟩ []
 rintro ⟨v29,hv_⟩;replace hv_:=hv_.symm;subst hv_;refine A8 _ _ ?_;refine got hn ?_;obtain rfl:=oI h;exact ⟨[],_,fm⟩

theorem a14 (N:Nat) (a0:ByteArray) (r:Bool) (h:cmp_isNaN_string N a0=some r):Spec Tryz.prog 145 [] [.str a0] (.bool r) [] []:=by
 refine Spec.of u7 Tryz.func145 rfl Tryz.ntmps145 (by kernel_rfl) rfl rfl rfl fun Γ hn=>?_;unfold cmp_isNaN_string at h;refine j6 hn ?_;refine j6 hn ?_;refine got hn ?_;obtain rfl:=oI h;exact ⟨[],_,fm⟩

theorem bK5 (N:Nat) (a0:ByteArray) (a1:ByteArray) (r:Int) (h:aT1 N a0 a1=some r):Spec Tryz.prog 105 [] [.str a0,.str a1] (.int r) [] []:=by
 refine Spec.of u7 Tryz.func105 rfl Tryz.ntmps105 (by kernel_rfl) rfl rfl rfl fun Γ hn=>?_;unfold aT1 at h;refine j6 hn ?_;refine j6 hn ?_;obtain ⟨r1,hr2,h⟩:=j4 h;show l5 _ _ _ _ _;refine cA (a14 N a0 r1 hr2) ?_;refine j6 hn ?_;obtain ⟨r3,hr4,h⟩:=j4 h;show l5 _ _ _ _ _;refine cA (a14 N a1 r3 hr4) ?_;refine j5.seqQ fun _ A0 _ R0=>?_;refine j6 hn ?_;refine l8 hn ?_;refine l6 h (fun hb5 h=>?_) (fun hb5 h=>?_)
 ·refine j5.seqQ fun _ A1 _ R1=>?_;refine j6 hn ?_;refine l8 hn ?_;refine l6 h (fun hb6 h=>?_) (fun hb6 h=>?_)
  ·refine j6 hn ?_;refine got hn ?_;refine R1 _ _ ?_;refine R0 _ _ ?_;obtain rfl:=oI h;exact ⟨[],_,fm⟩
  refine q9 hn ?_;refine A1 _ _ ?_;refine j6 hn ?_;refine got hn ?_;refine R0 _ _ ?_;obtain rfl:=oI h;exact ⟨[],_,fm⟩
 refine q9 hn ?_;refine A0 _ _ ?_;refine j5.seqQ fun _ A2 _ R2=>?_;refine j6 hn ?_;refine l8 hn ?_;refine l6 h (fun hb7 h=>?_) (fun hb7 h=>?_)
 ·refine j6 hn ?_;refine got hn ?_;refine R2 _ _ ?_;obtain rfl:=oI h;exact ⟨[],_,fm⟩
 refine q9 hn ?_;refine A2 _ _ ?_;refine j5.seqQ fun _ A3 _ R3=>?_;refine j6 hn ?_;refine l8 hn ?_;refine l6 h (fun hb8 h=>?_) (fun hb8 h=>?_)
 ·refine j6 hn ?_;refine got hn ?_;refine R3 _ _ ?_;obtain rfl:=oI h;exact ⟨[],_,fm⟩
 refine q9 hn ?_;refine A3 _ _ ?_;refine j5.seqQ fun _ A4 _ R4=>?_;refine j6 hn ?_;refine l8 hn ?_;refine l6 h (fun hb9 h=>?_) (fun hb9 h=>?_)
 ·refine kp [] [] ?_;refine j6 hn ?_;refine got hn ?_;refine R4 _ _ ?_;obtain rfl:=oI h;exact ⟨[],_,fm⟩
 refine q9 hn ?_;refine A4 _ _ ?_;refine kp [] [] ?_;refine j6 hn ?_;refine got hn ?_;obtain rfl:=oI h;exact ⟨[],_,fm⟩

theorem bL5 (N:Nat) (a0:Me) (a1:ByteArray) (r:Int) (h:aR4 N a0 a1=some r):Spec Tryz.prog 72 [] [.agg (J3 a0),.str a1] (.int r) [] []:=by
 refine Spec.of u7 Tryz.func72 rfl Tryz.ntmps72 (by kernel_rfl) rfl rfl rfl fun Γ hn=>?_;unfold aR4 at h;refine j6 hn ?_;refine j6 hn ?_;obtain ⟨r1,hr2,h⟩:=j4 h;show l5 _ _ _ _ _;refine cA (bK5 N a0.name a1 r1 hr2) ?_;refine got hn ?_;obtain rfl:=oI h;exact ⟨[],_,fm⟩

theorem b68 (N:Nat) (a0:Wd) (r:Wd) (h:bJ8 N a0=some r):Spec Tryz.prog 60 [] [.agg (P6 a0)] (.agg [.own 0,.sl 2 (List.map D8 r.heap),.int r.epoch]) [(0,.deep 4 81 [(3,(5,27))] (List.map F4 r.classes) [] 1),(1,.gone)] [0,1]:=by
 refine Spec.of u7 Tryz.func60 rfl Tryz.ntmps60 (by kernel_rfl) rfl rfl rfl fun Γ hn=>?_;unfold bJ8 at h;refine j6 hn ?_;refine j5.seqQ fun _ A0 _ _=>?_;refine C9 hn (by kernel_rfl) ?_;obtain ⟨r1,hr2,h⟩:=j4 h;show l5 _ _ _ _ _;refine cA (((a01 N a0.heap r1 hr2).sw 0 11).sw 1 711) ?_;refine A0 _ _ ?_;refine j5.seqQ fun _ A1 _ _=>?_;refine j6 hn ?_;refine w9 (fun hl3=>?_);refine j5.nilrowB 3 0 501 4 81 rfl rfl rfl rfl rfl rfl ?_;refine j5.gh (Gh.toDeep 501 502 [(3,(5,27))] rfl rfl rfl rfl) (fun _=>?_);obtain ⟨o8,h9,h⟩:=j4 h;refine jk (ι:={ s // o8=s }) hn (fun s=>[]) (fun s=>[(501,.deep 4 81 [(3,(5,27))] (List.map F4 s.1) [] 502)]) [(2,_),(3,_)] [(2,_),(3,_),(11,_),(502,_),(711,_)] (fun _ A2 _ _=>?_) ?_
 ·refine j5.blkQ fun _ _ E3 _ _=>?_;refine lq (ι:={ q:((List Cl)×Nat×(List Cl)) // q.1=a0.classes.drop q.2.1∧aM3 N q.1 q.2.1 q.2.2=some o8 }) hn (fun q=>[(18,.int (q.1.2.1:Int))]) (fun q=>[(501,.deep 4 81 [(3,(5,27))] (List.map F4 q.1.2.2) [] 502)]) (fun q=>q.1.1.length) [(2,_),(3,_),(16,_),(17,_)] [(2,_),(3,_),(11,_),(502,_),(711,_)] ⟨(a0.classes,0,([]:List Cl)),rfl,h9⟩ [] ?_;rintro ⟨⟨rest_,k4,v5⟩,hd11,h9⟩ _ A4 X4 _;replace hd11:rest_=a0.classes.drop k4:=hd11;rcases rest_ with _|⟨x13,rest10⟩
  ·have hlt15:=I8 hd11;replace h9:=(aM3.eq_1 _ _ _).symm.trans h9;refine j6 hn ?_;refine j5.seqQ fun _ _ X5 _=>?_;refine l8 hn ?_;refine d9 hlt15 ?_;refine F8 hn ?_;refine X5 _ _ _ ?_;refine X4 _ _ _ ?_;refine E3 _ _ ?_;refine A2 _ _ ?_;exact jn ⟨_,sj h9⟩ []
  ·obtain ⟨hx14,hd2,hlt15⟩:=H7 hd11;replace h9:=(aM3.eq_2 _ _ _ _ _).symm.trans h9;refine j6 hn ?_;refine j5.seqQ fun _ A6 _ _=>?_;refine l8 hn ?_;refine j3 hlt15 ?_;refine q9 hn ?_;refine A6 _ _ ?_;refine j5.seqQ fun _ A7 _ _=>?_;refine j5.blkQ fun _ A8 _ _ _=>?_;refine j6 hn ?_;refine Z4 hx14 ?_;refine j6 hn ?_;refine j5.seqQ fun _ A9 _ _=>?_;refine j6 hn ?_;refine w9 (fun hl16=>?_);refine j5.nilrow 6 206 5 27 rfl rfl rfl ?_;obtain ⟨o21,h22,h9⟩:=j4 h9;refine jk (ι:={ s // o21=s }) hn (fun s=>[]) (fun s=>[(206,.row 5 (List.map J3 s.1) 27)]) [(2,_),(3,_),(5,_),(6,_),(16,_),(17,_),(18,_)] [(2,_),(3,_),(5,_),(11,_),(501,_),(502,_),(711,_)] (fun _ A10 _ _=>?_) ?_
   ·refine j5.blkQ fun _ _ E11 _ _=>?_;refine lq (ι:={ q:((List Me)×Nat×(List Me)) // q.1=x13.methods.drop q.2.1∧aM6 N q.1 q.2.1 q.2.2=some o21 }) hn (fun q=>[(25,.int (q.1.2.1:Int))]) (fun q=>[(206,.row 5 (List.map J3 q.1.2.2) 27)]) (fun q=>q.1.1.length) [(2,_),(3,_),(5,_),(6,_),(16,_),(17,_),(18,_),(23,_),(24,_)] [(2,_),(3,_),(5,_),(11,_),(501,_),(502,_),(711,_)] ⟨(x13.methods,0,([]:List Me)),rfl,h22⟩ [] ?_;rintro ⟨⟨rest_,k17,v18⟩,hd24,h22⟩ _ A12 X12 _;replace hd24:rest_=x13.methods.drop k17:=hd24;rcases rest_ with _|⟨x26,rest23⟩
    ·have hlt28:=I8 hd24;replace h22:=(aM6.eq_1 _ _ _).symm.trans h22;refine j6 hn ?_;refine j5.seqQ fun _ _ X13 _=>?_;refine l8 hn ?_;refine d9 hlt28 ?_;refine F8 hn ?_;refine X13 _ _ _ ?_;refine X12 _ _ _ ?_;refine E11 _ _ ?_;refine A10 _ _ ?_;exact jn ⟨_,sj h22⟩ []
    ·obtain ⟨hx27,hd2,hlt28⟩:=H7 hd24;replace h22:=(aM6.eq_2 _ _ _ _ _).symm.trans h22;refine j6 hn ?_;refine j5.seqQ fun _ A14 _ _=>?_;refine l8 hn ?_;refine j3 hlt28 ?_;refine q9 hn ?_;refine A14 _ _ ?_;refine j5.seqQ fun _ A15 _ _=>?_;refine j5.blkQ fun _ A16 _ _ _=>?_;refine j6 hn ?_;refine Z4 hx27 ?_;refine q8 hn ?_;obtain ⟨r29,hr30,h22⟩:=j4 h22;show l5 _ _ _ _ _;refine cA (aR9 N x26 r29 hr30) ?_;refine Exists.intro (List.map J3 [r29]) (And.intro aT ?_);obtain ⟨hg31,h22⟩:=C8 h22;refine Y2 (l2:=[r29]) hg31 (y9 _) ?_;refine A16 _ _ ?_;refine A15 _ _ ?_;refine kp [(2,_),(3,_),(5,_),(6,_),(16,_),(17,_),(18,_),(23,_),(24,_),(25,_)] [(2,_),(3,_),(5,_),(11,_),(33,_),(501,_),(502,_),(711,_)] ?_;refine q8 hn ?_;refine Or.inl (And.intro (V7 hx27 hl16) ?_);refine A12 _ _ ?_;exact jn ⟨(rest23,k17+1,(v18++[r29])),hd2,h22⟩ [(206,33)] (by show rest23.length < rest23.length+1; omega)
   rintro ⟨v20,hv_⟩;replace hv_:=hv_.symm;subst hv_;refine A9 _ _ ?_;refine j6 hn ?_;refine q8 hn ?_;refine Or.inl ?_;refine Exists.intro [(3,(5,27))] (Exists.intro (F4 (⟨x13.name,x13.super,x13.slots,v20⟩:Cl)) (Exists.intro [(206,.row 5 (List.map J3 v20) 27)] (And.intro rfl (And.intro rfl (And.intro rfl (And.intro (by decide) (And.intro (by decide) (And.intro rfl (And.intro rfl ?_)))))))));obtain ⟨hg32,h9⟩:=C8 h9;refine b44 (l2:=[(⟨x13.name,x13.super,x13.slots,v20⟩:Cl)]) hg32 rfl rfl rfl rfl rfl (by decide) (by decide) ?_;refine A8 _ _ ?_;refine A7 _ _ ?_;refine q8 hn ?_;refine Or.inl (And.intro (V7 hx14 hl3) ?_);refine A4 _ _ ?_;exact jn ⟨(rest10,k4+1,(v5++[(⟨x13.name,x13.super,x13.slots,v20⟩:Cl)])),hd2,h9⟩ [(501,41),(502,741)] (by show rest10.length < rest10.length+1; omega)
 rintro ⟨v7,hv_⟩;replace hv_:=hv_.symm;subst hv_;refine A1 _ _ ?_;refine j6 hn ?_;refine j5.fzAllD 11 rfl ?_;refine got hn ?_;obtain rfl:=oI h;exact ⟨[(0,501),(1,502)],_,fm⟩

theorem bX7 (N:Nat) (a0:Wd) (a1:Int) (a2:Me) (r:(Wd×Int)) (h:bB3 N a0 a1 a2=some r):Spec Tryz.prog 97 [] [.agg (P6 a0),.int a1,.agg (J3 a2)] (.tup [.agg (P6 r.1),.int r.2]) [] []:=by
 refine Spec.of u7 Tryz.func97 rfl Tryz.ntmps97 (by kernel_rfl) rfl rfl rfl fun Γ hn=>?_;unfold bB3 at h;refine j6 hn ?_;refine j5.seqQ fun _ A0 _ R0=>?_;refine j5.seqQ fun _ A1 _ _=>?_;obtain ⟨o3,h2,h⟩:=j4 h;refine jk (ι:={ s // o3=s }) hn (fun s=>[(20,.bool s.1)]) (fun s=>[]) [(1,_),(3,_),(5,_),(6,_)] [(3,_),(5,_),(6,_)] (fun _ A2 _ _=>?_) ?_
 ·refine q8 hn ?_;refine l6 h2 (fun hb4 h2=>?_) (fun hb4 h2=>?_)
  ·refine j3 hb4 ?_;refine j3 hb4 ?_;refine j3 hb4 ?_;refine j3 hb4 ?_;refine j3 hb4 ?_;refine A2 _ _ ?_;exact jn ⟨_,sj h2⟩ []
  refine d9 hb4 ?_;refine d9 hb4 ?_;refine d9 hb4 ?_;refine w9 (fun _=>?_);refine d9 hb4 ?_;refine d9 hb4 ?_;refine A2 _ _ ?_;exact jn ⟨_,sj h2⟩ []
 rintro ⟨v1,hv_⟩;replace hv_:=hv_.symm;subst hv_;refine A1 _ _ ?_;refine l8 hn ?_;refine l6 h (fun hb6 h=>?_) (fun hb6 h=>?_)
 ·refine j6 hn ?_;refine got hn ?_;refine R0 _ _ ?_;obtain rfl:=oI h;exact ⟨[],_,fm⟩
 refine q9 hn ?_;refine A0 _ _ ?_;refine j5.seqQ fun _ A3 _ _=>?_;refine C9 hn (by kernel_rfl) ?_;obtain ⟨x7,hx8,h⟩:=j4 h;refine K6 hx8 ?_;obtain ⟨r9,hr10,h⟩:=j4 h;show l5 _ _ _ _ _;refine cA (V6 N x7.methods a2.name (fun x0_ x1_=>aR4 N x0_ x1_) (fun x0_ x1_ y_ hy_=>bL5 N x0_ x1_ y_ hy_) r9 hr10) ?_;refine A3 _ _ ?_;refine j5.seqQ fun _ A4 _ R4=>?_;refine j5.seqQ fun _ A5 _ _=>?_;obtain ⟨o13,h12,h⟩:=j4 h;refine jk (ι:={ s // o13=s }) hn (fun s=>[(45,.bool s.1)]) (fun s=>[]) [(1,_),(3,_),(5,_),(6,_),(8,_),(9,_)] [(3,_),(5,_),(6,_)] (fun _ A6 _ _=>?_) ?_
 ·refine kp [(1,_),(3,_),(5,_),(6,_),(8,_),(9,_)] [(3,_),(5,_),(6,_)] ?_;refine q8 hn ?_;refine l6 h12 (fun hb14 h12=>?_) (fun hb14 h12=>?_)
  ·refine j3 hb14 ?_;refine j3 hb14 ?_;refine j3 hb14 ?_;obtain ⟨x15,hx16,h12⟩:=j4 h12;refine K6 hx16 ?_;refine j3 hb14 ?_;refine j3 hb14 ?_;refine j3 hb14 ?_;refine w9 (fun _=>?_);refine j3 hb14 ?_;refine j3 hb14 ?_;refine A6 _ _ ?_;exact jn ⟨_,sj h12⟩ []
  refine d9 hb14 ?_;refine d9 hb14 ?_;refine d9 hb14 ?_;refine d9 hb14 ?_;refine d9 hb14 ?_;refine d9 hb14 ?_;refine d9 hb14 ?_;refine d9 hb14 ?_;refine A6 _ _ ?_;exact jn ⟨_,sj h12⟩ []
 rintro ⟨v11,hv_⟩;replace hv_:=hv_.symm;subst hv_;refine A5 _ _ ?_;refine l8 hn ?_;refine l6 h (fun hb18 h=>?_) (fun hb18 h=>?_)
 ·refine j6 hn ?_;refine got hn ?_;refine R4 _ _ ?_;obtain rfl:=oI h;exact ⟨[],_,fm⟩
 refine q9 hn ?_;refine A4 _ _ ?_;refine j6 hn ?_;obtain ⟨r19,hr20,h⟩:=j4 h;show l5 _ _ _ _ _;refine cA (((b68 N a0 r19 hr20).sw 0 48).sw 1 748) ?_;refine j6 hn ?_;obtain ⟨x21,hx22,h⟩:=j4 h;refine ixD hx22 rfl rfl ?_;refine j5.seqQ fun _ A7 _ _=>?_;refine j6 hn ?_;obtain ⟨o25,h24,h⟩:=j4 h;refine jk (ι:={ s // o25=s }) hn (fun s=>[]) (fun s=>[(48,.deep 4 81 [(3,(5,27))] (List.map F4 s.1) [] 501),(501,.gone)]) [(5,_),(6,_),(8,_),(10,_),(11,_)] [(5,_),(6,_),(10,_)] (fun _ A8 _ _=>?_) ?_
 ·refine l8 hn ?_;refine l6 h24 (fun hb26 h24=>?_) (fun hb26 h24=>?_)
  ·refine j5.gh (Gh.detach 48 501 502 a1.toNat 3 rfl rfl (I9 (u6 hx22).2) rfl rfl rfl rfl rfl rfl rfl rfl) (fun _=>?_);refine kp [(5,_),(6,_),(8,_),(10,_),(11,_)] [(5,_),(6,_),(10,_),(48,_),(501,_),(502,_)] ?_;refine q8 hn ?_;refine G7 (u6 hx22).2 rfl rfl (by decide) rfl ?_;refine Exists.intro (List.map J3 [(⟨ByteArray.empty,(0:Int),(0:Int),(0:Int),[]⟩:Me)]) (And.intro aT ?_);obtain ⟨r27,hr28,h24⟩:=j4 h24;show l5 _ _ _ _ _;refine cA ((((bQ0 N x21.methods r9.1 [(⟨ByteArray.empty,(0:Int),(0:Int),(0:Int),[]⟩:Me)] r27 hr28).sw 1000 501).sw 1032 62).sw 0 63) ?_;refine aH9 (u6 hx22).2 rfl rfl (by decide) ?_;refine A8 _ _ ?_;refine y5.gh (Gh.attach (l':=List.map F4 (r19.classes.set a1.toNat (⟨x21.name,x21.super,x21.slots,r27⟩:Cl))) 48 63 503 a1.toNat 3 rfl rfl rfl (I9 (u6 hx22).2) rfl rfl (Q5 rfl) rfl rfl rfl rfl rfl rfl) (fun _=>?_);exact jn ⟨_,sj h24⟩ [(501,503)]
  refine q9 hn ?_;refine A8 _ _ ?_;exact jn ⟨_,sj h24⟩ [(501,748)]
 rintro ⟨v23,hv_⟩;replace hv_:=hv_.symm;subst hv_;refine A7 _ _ ?_;refine j5.seqQ fun _ A9 _ _=>?_;obtain ⟨x29,hx30,h⟩:=j4 h;refine j5.gh (Gh.detach 48 504 505 a1.toNat 3 rfl rfl (I9 hx30) rfl rfl rfl rfl rfl rfl rfl rfl) (fun _=>?_);refine kp [(5,_),(6,_),(8,_),(10,_),(11,_)] [(5,_),(6,_),(10,_),(48,_),(504,_),(505,_)] ?_;refine C9 hn (by kernel_rfl) ?_;refine G7 hx30 rfl rfl (by decide) rfl ?_;obtain ⟨r31,hr32,h⟩:=j4 h;show l5 _ _ _ _ _;refine cA (aR9 N a2 r31 hr32) ?_;obtain ⟨x33,hx34,h⟩:=j4 h;refine O8 hx34 ?_;refine I7 (u6 hx34).2 ?_;refine Exists.intro (List.map J3 (x29.methods.set r9.1.toNat r31)) (And.intro (aI7 (u6 hx34).2 aT) ?_);refine A9 _ _ ?_;refine j5.gh (Gh.attach (l':=List.map F4 (v23.set a1.toNat (⟨x29.name,x29.super,x29.slots,(x29.methods.set r9.1.toNat r31)⟩:Cl))) 48 504 506 a1.toNat 3 rfl rfl rfl (I9 hx30) rfl rfl (Q5 rfl) rfl rfl rfl rfl rfl rfl) (fun _=>?_);refine kp [(6,_),(10,_)] [(6,_),(10,_),(48,_),(506,_)] ?_;refine j6 hn ?_;refine Or.inr ?_;refine j6 hn ?_;refine j5.fzAllD 48 rfl ?_;refine got hn ?_;obtain rfl:=oI h;exact ⟨[],_,fm⟩

theorem bV0 (N:Nat) (a0:y8) (a1:Int) (a2:Me) (r:(N7×y8)) (h:aA2 N a0 a1 a2=some r):Spec Tryz.prog 65 [(1000,.box (V8 a0) 45)] [.ptr 1000 0,.int a1,.agg (J3 a2)] (.agg (aM9 r.1)) [(1000,.box (V8 r.2) 45)] []:=by
 refine Spec.of u7 Tryz.func65 rfl Tryz.ntmps65 (by kernel_rfl) rfl rfl rfl fun Γ hn=>?_;unfold aA2 at h;refine j6 hn ?_;refine j5.seqQ fun _ A0 _ R0=>?_;refine j5.seqQ fun _ A1 _ _=>?_;refine C9 hn (by kernel_rfl) ?_;obtain ⟨r1,hr2,h⟩:=j4 h;show l5 _ _ _ _ _;refine cA (bP0 N a0.world a1 a2 r1 hr2) ?_;refine A1 _ _ ?_;refine j6 hn ?_;refine l8 hn ?_;refine l6 h (fun hb3 h=>?_) (fun hb3 h=>?_)
 ·refine j6 hn ?_;refine got hn ?_;refine R0 _ _ ?_;obtain rfl:=oI h;exact ⟨[],_,fm⟩
 refine q9 hn ?_;refine A0 _ _ ?_;refine j5.seqQ fun _ A2 _ _=>?_;refine C9 hn (by kernel_rfl) ?_;obtain ⟨r4,hr5,h⟩:=j4 h;show l5 _ _ _ _ _;refine cA (bX7 N a0.world a1 a2 r4 hr5) ?_;refine A2 _ _ ?_;refine j5.seqQ fun _ A3 _ _=>?_;refine kp [(0,_),(6,_),(8,_),(9,_)] [(6,_),(8,_),(1000,_)] ?_;refine j6 hn ?_;obtain ⟨o8,h7,h⟩:=j4 h;refine jk (ι:={ s // o8=s }) hn (fun s=>[]) (fun s=>[(1000,.box (V8 s.1) 45)]) [(0,_),(6,_),(9,_)] [(6,_)] (fun _ A4 _ _=>?_) ?_
 ·refine l8 hn ?_;refine l6 h7 (fun hb9 h7=>?_) (fun hb9 h7=>?_)
  ·refine q8 hn ?_;refine A4 _ _ ?_;exact jn ⟨_,sj h7⟩ []
  refine q9 hn ?_;refine A4 _ _ ?_;exact jn ⟨_,sj h7⟩ []
 rintro ⟨v6,hv_⟩;replace hv_:=hv_.symm;subst hv_;refine A3 _ _ ?_;refine j6 hn ?_;refine got hn ?_;obtain rfl:=oI h;exact ⟨[],_,fm⟩

theorem aZ9 (N:Nat) (a0:(List Ob)) (a1:Int) (a2:Int) (r:((List Ob)×V×Int)) (h:bH6 N a0 a1 a2=some r):Spec Tryz.prog 98 [] [.sl 2 (List.map D8 a0),.int a1,.int a2] (.tup [.own 0,.agg (eV r.2.1),.int r.2.2]) [(0,.deep 2 92 [(1,(2,29))] (List.map D8 r.1) [] 1),(1,.gone)] [0,1]:=by
 refine Spec.of u7 Tryz.func98 rfl Tryz.ntmps98 (by kernel_rfl) rfl rfl rfl fun Γ hn=>?_;unfold bH6 at h;refine j6 hn ?_;refine j5.seqQ fun _ A0 _ R0=>?_;refine j6 hn ?_;refine w9 (fun _=>?_);refine l8 hn ?_;refine l6 h (fun hb2 h=>?_) (fun hb2 h=>?_)
 ·refine j6 hn ?_;refine j5.nilrow 6 206 2 92 rfl rfl rfl ?_;refine j5.gh (Gh.toDeep 206 501 [(1,(2,29))] rfl rfl rfl rfl) (fun _=>?_);refine got hn ?_;refine R0 _ _ ?_;obtain rfl:=oI h;exact ⟨[(0,206),(1,501)],_,fm⟩
 refine q9 hn ?_;refine A0 _ _ ?_;refine j5.seqQ fun _ A1 _ _=>?_;refine C9 hn (by kernel_rfl) ?_;obtain ⟨r3,hr4,h⟩:=j4 h;show l5 _ _ _ _ _;refine cA (((a01 N a0 r3 hr4).sw 0 14).sw 1 714) ?_;obtain ⟨hg5,h⟩:=C8 h;refine mkM (enc:=eV) (x:=(⟨(0:Int),(0:Int)⟩:V)) hg5 aT ?_;refine Or.inl ?_;refine Exists.intro [(1,(2,29))] (Exists.intro (D8 (⟨a1,(List.replicate (max a2 (0:Int)).toNat (⟨(0:Int),(0:Int)⟩:V))⟩:Ob)) (Exists.intro [(18,.row 2 (List.map eV (List.replicate (max a2 (0:Int)).toNat (⟨(0:Int),(0:Int)⟩:V))) 29)] (And.intro rfl (And.intro rfl (And.intro rfl (And.intro (by decide) (And.intro (by decide) (And.intro rfl (And.intro rfl ?_)))))))));obtain ⟨hg6,h⟩:=C8 h;refine b44 (l2:=[(⟨a1,(List.replicate (max a2 (0:Int)).toNat (⟨(0:Int),(0:Int)⟩:V))⟩:Ob)]) hg6 rfl rfl rfl rfl rfl (by decide) (by decide) ?_;refine w9 (fun _=>?_);refine A1 _ _ ?_;refine got hn ?_;obtain rfl:=oI h;exact ⟨[(0,21),(1,721)],_,fm⟩

theorem b22 (N:Nat) (a0:y8) (a1:Int) (r:(N7×y8)) (h:bD4 N a0 a1=some r):Spec Tryz.prog 66 [(1000,.box (V8 a0) 45)] [.ptr 1000 0,.int a1] (.agg (aM9 r.1)) [(1000,.box (V8 r.2) 45)] []:=by
 refine Spec.of u7 Tryz.func66 rfl Tryz.ntmps66 (by kernel_rfl) rfl rfl rfl fun Γ hn=>?_;unfold bD4 at h;refine j6 hn ?_;refine j5.seqQ fun _ A0 _ R0=>?_;refine j5.seqQ fun _ A1 _ _=>?_;obtain ⟨o3,h2,h⟩:=j4 h;refine jk (ι:={ s // o3=s }) hn (fun s=>[(23,.bool s.1)]) (fun s=>[]) [(0,_),(1,_),(4,_)] [(4,_),(1000,_)] (fun _ A2 _ _=>?_) ?_
 ·refine q8 hn ?_;refine l6 h2 (fun hb4 h2=>?_) (fun hb4 h2=>?_)
  ·refine j3 hb4 ?_;refine j3 hb4 ?_;refine l6 h2 (fun hb5 h2=>?_) (fun hb5 h2=>?_)
   ·refine j3 hb5 ?_;refine j3 hb5 ?_;refine j3 hb5 ?_;refine j3 hb5 ?_;refine j3 hb5 ?_;refine j3 hb5 ?_;refine j3 hb5 ?_;refine j3 hb4 ?_;refine j3 hb5 ?_;refine j3 hb4 ?_;refine A2 _ _ ?_;exact jn ⟨_,sj h2⟩ []
   refine d9 hb5 ?_;refine d9 hb5 ?_;refine d9 hb5 ?_;refine d9 hb5 ?_;refine d9 hb5 ?_;refine d9 hb5 ?_;refine w9 (fun _=>?_);refine d9 hb5 ?_;refine j3 hb4 ?_;refine d9 hb5 ?_;refine j3 hb4 ?_;refine A2 _ _ ?_;exact jn ⟨_,sj h2⟩ []
  refine d9 hb4 ?_;refine d9 hb4 ?_;refine d9 hb4 ?_;refine d9 hb4 ?_;refine A2 _ _ ?_;exact jn ⟨_,sj h2⟩ []
 rintro ⟨v1,hv_⟩;replace hv_:=hv_.symm;subst hv_;refine A1 _ _ ?_;refine l8 hn ?_;refine l6 h (fun hb7 h=>?_) (fun hb7 h=>?_)
 ·refine j6 hn ?_;refine got hn ?_;refine R0 _ _ ?_;obtain rfl:=oI h;exact ⟨[],_,fm⟩
 refine q9 hn ?_;refine A0 _ _ ?_;refine j5.seqQ fun _ A3 _ _=>?_;refine kp [(0,_),(1,_),(4,_)] [(4,_),(1000,_)] ?_;refine C9 hn (by kernel_rfl) ?_;obtain ⟨r8,hr9,h⟩:=j4 h;show l5 _ _ _ _ _;refine cA (aA3 N a0.world a1 r8 hr9) ?_;obtain ⟨r10,hr11,h⟩:=j4 h;show l5 _ _ _ _ _;refine cA (((aZ9 N a0.world.heap a1 r8 r10 hr11).sw 0 38).sw 1 738) ?_;refine A3 _ _ ?_;refine j5.seqQ fun _ A4 _ R4=>?_;refine kp [(0,_),(4,_),(5,_),(6,_),(7,_)] [(4,_),(6,_),(38,_),(738,_),(1000,_)] ?_;refine j6 hn ?_;refine l8 hn ?_;refine l6 h (fun hb12 h=>?_) (fun hb12 h=>?_)
 ·refine j6 hn ?_;refine got hn ?_;refine R4 _ _ ?_;obtain rfl:=oI h;exact ⟨[],_,fm⟩
 refine q9 hn ?_;refine A4 _ _ ?_;refine j6 hn ?_;refine j6 hn ?_;refine j5.fzAllD 38 rfl ?_;refine got hn ?_;obtain rfl:=oI h;exact ⟨[],_,fm⟩

theorem bL8 (N:Nat) (a0:V) (a1:Int) (r:Int) (h:aL5 N a0 a1=some r):Spec Tryz.prog 76 [] [.agg (eV a0),.int a1] (.int r) [] []:=by
 refine Spec.of u7 Tryz.func76 rfl Tryz.ntmps76 (by kernel_rfl) rfl rfl rfl fun Γ hn=>?_;unfold aL5 at h;refine j6 hn ?_;refine j5.seqQ fun _ A0 _ R0=>?_;refine j6 hn ?_;obtain ⟨o2,h1,h⟩:=j4 h;refine jk (ι:={ s // o2=F9.next s }) hn (fun s=>[]) (fun s=>[]) [] [] (fun _ A1 _ R1=>?_) ?_
 ·refine j5.blkQ fun _ A2 _ _ R2=>?_;refine j5.seqQ fun _ A3 _ _=>?_;refine j6 hn ?_;obtain ⟨o5,h4,h1⟩:=j4 h1;refine jk (ι:={ s // o5=s }) hn (fun s=>[(7,.bool s.1)]) (fun s=>[]) [(1,_),(2,_),(6,_)] [(2,_)] (fun _ A4 _ _=>?_) ?_
  ·refine l8 hn ?_;refine l6 h4 (fun hb6 h4=>?_) (fun hb6 h4=>?_)
   ·refine q9 hn ?_;refine A4 _ _ ?_;exact jn ⟨_,sj h4⟩ []
   refine j6 hn ?_;obtain ⟨o9,h8,h4⟩:=j4 h4;refine jk (ι:={ s // o9=s }) hn (fun s=>[(7,.bool s.1)]) (fun s=>[]) [(1,_),(2,_),(6,_)] [(2,_)] (fun _ A5 _ _=>?_) ?_
   ·refine l8 hn ?_;refine l6 h8 (fun hb10 h8=>?_) (fun hb10 h8=>?_)
    ·refine q9 hn ?_;refine A5 _ _ ?_;exact jn ⟨_,sj h8⟩ []
    refine q8 hn ?_;refine A5 _ _ ?_;exact jn ⟨_,sj h8⟩ []
   rintro ⟨v7,hv_⟩;replace hv_:=hv_.symm;subst hv_;refine A4 _ _ ?_;exact jn ⟨_,sj h4⟩ []
  rintro ⟨v3,hv_⟩;replace hv_:=hv_.symm;subst hv_;refine A3 _ _ ?_;obtain ⟨o12,h11,h1⟩:=j4 h1;refine jk (ι:={ s // o12=F9.next s }) hn (fun s=>[]) (fun s=>[]) [] [] (fun _ A6 _ R6=>?_) ?_
  ·refine l8 hn ?_;refine l6 h11 (fun hb13 h11=>?_) (fun hb13 h11=>?_)
   ·refine j6 hn ?_;refine l8 hn ?_;refine l6 h11 (fun hb14 h11=>?_) (fun hb14 h11=>?_)
    ·refine j6 hn ?_;refine got hn ?_;refine R6 _ _ ?_;refine R2 _ _ ?_;refine R1 _ _ ?_;refine R0 _ _ ?_;obtain rfl:=oI h11;obtain rfl:=oI h1;obtain rfl:=oI h;exact ⟨[],_,fm⟩
    refine q9 hn ?_;refine A6 _ _ ?_;exact jn ⟨_,sj h11⟩ []
   refine j6 hn ?_;obtain ⟨o16,h15,h11⟩:=j4 h11;refine jk (ι:={ s // o16=F9.next s }) hn (fun s=>[]) (fun s=>[]) [] [] (fun _ A7 _ R7=>?_) ?_
   ·refine l8 hn ?_;refine l6 h15 (fun hb17 h15=>?_) (fun hb17 h15=>?_)
    ·refine j5.seqQ fun _ A8 _ _=>?_;obtain ⟨o20,h19,h15⟩:=j4 h15;refine jk (ι:={ s // o20=s }) hn (fun s=>[(23,.bool s.1)]) (fun s=>[]) [] [] (fun _ A9 _ _=>?_) ?_
     ·refine q8 hn ?_;refine l6 h19 (fun hb21 h19=>?_) (fun hb21 h19=>?_)
      ·refine j3 hb21 ?_;refine j3 hb21 ?_;refine j3 hb21 ?_;refine A9 _ _ ?_;exact jn ⟨_,sj h19⟩ []
      refine d9 hb21 ?_;refine d9 hb21 ?_;refine d9 hb21 ?_;refine A9 _ _ ?_;exact jn ⟨_,sj h19⟩ []
     rintro ⟨v18,hv_⟩;replace hv_:=hv_.symm;subst hv_;refine A8 _ _ ?_;refine l8 hn ?_;refine l6 h15 (fun hb22 h15=>?_) (fun hb22 h15=>?_)
     ·refine j6 hn ?_;refine got hn ?_;refine R7 _ _ ?_;refine R6 _ _ ?_;refine R2 _ _ ?_;refine R1 _ _ ?_;refine R0 _ _ ?_;obtain rfl:=oI h15;obtain rfl:=oI h11;obtain rfl:=oI h1;obtain rfl:=oI h;exact ⟨[],_,fm⟩
     refine q9 hn ?_;refine A7 _ _ ?_;exact jn ⟨_,sj h15⟩ []
    refine j6 hn ?_;refine l8 hn ?_;refine l6 h15 (fun hb23 h15=>?_) (fun hb23 h15=>?_)
    ·refine j5.seqQ fun _ A10 _ _=>?_;obtain ⟨o26,h25,h15⟩:=j4 h15;refine jk (ι:={ s // o26=s }) hn (fun s=>[(34,.bool s.1)]) (fun s=>[]) [] [] (fun _ A11 _ _=>?_) ?_
     ·refine q8 hn ?_;refine l6 h25 (fun hb27 h25=>?_) (fun hb27 h25=>?_)
      ·refine j3 hb27 ?_;refine j3 hb27 ?_;refine j3 hb27 ?_;refine j3 hb27 ?_;refine A11 _ _ ?_;exact jn ⟨_,sj h25⟩ []
      refine d9 hb27 ?_;refine d9 hb27 ?_;refine d9 hb27 ?_;refine d9 hb27 ?_;refine A11 _ _ ?_;exact jn ⟨_,sj h25⟩ []
     rintro ⟨v24,hv_⟩;replace hv_:=hv_.symm;subst hv_;refine A10 _ _ ?_;refine l8 hn ?_;refine l6 h15 (fun hb28 h15=>?_) (fun hb28 h15=>?_)
     ·refine j6 hn ?_;refine got hn ?_;refine R7 _ _ ?_;refine R6 _ _ ?_;refine R2 _ _ ?_;refine R1 _ _ ?_;refine R0 _ _ ?_;obtain rfl:=oI h15;obtain rfl:=oI h11;obtain rfl:=oI h1;obtain rfl:=oI h;exact ⟨[],_,fm⟩
     refine q9 hn ?_;refine A7 _ _ ?_;exact jn ⟨_,sj h15⟩ []
    refine j6 hn ?_;refine got hn ?_;refine R7 _ _ ?_;refine R6 _ _ ?_;refine R2 _ _ ?_;refine R1 _ _ ?_;refine R0 _ _ ?_;obtain rfl:=oI h15;obtain rfl:=oI h11;obtain rfl:=oI h1;obtain rfl:=oI h;exact ⟨[],_,fm⟩
   rintro ⟨⟨⟩,rfl⟩;refine A6 _ _ ?_;exact jn ⟨_,sj h11⟩ []
  rintro ⟨⟨⟩,rfl⟩;refine A2 _ _ ?_;refine A1 _ _ ?_;exact jn ⟨_,sj h1⟩ []
 rintro ⟨⟨⟩,rfl⟩;refine A0 _ _ ?_;refine j6 hn ?_;refine got hn ?_;obtain rfl:=oI h;exact ⟨[],_,fm⟩

theorem bG9 (N:Nat) (a0:Wd) (a1:M6) (a2:Int) (r:Int) (h:aY9 N a0 a1 a2=some r):Spec Tryz.prog 163 [] [.agg (P6 a0),.agg (bA1 a1),.int a2] (.int r) [] []:=by
 refine Spec.of u7 Tryz.func163 rfl Tryz.ntmps163 (by kernel_rfl) rfl rfl rfl fun Γ hn=>?_;unfold aY9 at h;refine j6 hn ?_;refine j5.seqQ fun _ A0 _ R0=>?_;refine j6 hn ?_;obtain ⟨r1,hr2,h⟩:=j4 h;show l5 _ _ _ _ _;refine cA (aQ9 N a1.name r1 hr2) ?_;refine l8 hn ?_;refine l6 h (fun hb3 h=>?_) (fun hb3 h=>?_)
 ·refine j6 hn ?_;refine got hn ?_;refine R0 _ _ ?_;obtain rfl:=oI h;exact ⟨[],_,fm⟩
 refine q9 hn ?_;refine A0 _ _ ?_;refine j5.seqQ fun _ A1 _ R1=>?_;refine j6 hn ?_;refine w9 (fun _=>?_);refine l8 hn ?_;refine l6 h (fun hb5 h=>?_) (fun hb5 h=>?_)
 ·refine j6 hn ?_;refine got hn ?_;refine R1 _ _ ?_;obtain rfl:=oI h;exact ⟨[],_,fm⟩
 refine q9 hn ?_;refine A1 _ _ ?_;refine j5.seqQ fun _ A2 _ R2=>?_;refine j5.seqQ fun _ A3 _ _=>?_;obtain ⟨o8,h7,h⟩:=j4 h;refine jk (ι:={ s // o8=s }) hn (fun s=>[(23,.bool s.1)]) (fun s=>[]) [(3,_),(4,_)] [(3,_),(4,_)] (fun _ A4 _ _=>?_) ?_
 ·refine q8 hn ?_;refine l6 h7 (fun hb9 h7=>?_) (fun hb9 h7=>?_)
  ·refine j3 hb9 ?_;refine j3 hb9 ?_;refine A4 _ _ ?_;exact jn ⟨_,sj h7⟩ []
  refine d9 hb9 ?_;refine d9 hb9 ?_;refine A4 _ _ ?_;exact jn ⟨_,sj h7⟩ []
 rintro ⟨v6,hv_⟩;replace hv_:=hv_.symm;subst hv_;refine A3 _ _ ?_;refine l8 hn ?_;refine l6 h (fun hb10 h=>?_) (fun hb10 h=>?_)
 ·refine j6 hn ?_;refine got hn ?_;refine R2 _ _ ?_;obtain rfl:=oI h;exact ⟨[],_,fm⟩
 refine q9 hn ?_;refine A2 _ _ ?_;refine j5.seqQ fun _ A5 _ R5=>?_;refine j6 hn ?_;refine Exists.intro (List.map eV [a1.self_]) (And.intro aT ?_);obtain ⟨hg11,h⟩:=C8 h;refine Y2 (l2:=a1.args) hg11 (y9 _) ?_;refine w9 (fun hl12=>?_);obtain ⟨o14,h15,h⟩:=j4 h;refine jk (ι:={ s // o14=F9.next s }) hn (fun s=>[]) (fun s=>[]) [] [] (fun _ A6 _ R6=>?_) ?_
 ·refine j5.blkQ fun _ _ E7 _ R7=>?_;refine lq (ι:={ q:((List V)×Nat) // q.1=([a1.self_]++a1.args).drop q.2∧aC8 N a0 a1 q.1 q.2=some o14 }) hn (fun q=>[(31,.int (q.1.2:Int))]) (fun q=>[]) (fun q=>q.1.1.length) [(3,_),(29,_),(30,_)] [(3,_),(29,_)] ⟨(([a1.self_]++a1.args),0),rfl,h15⟩ [] ?_;rintro ⟨⟨rest_,k13⟩,hd17,h15⟩ _ A8 X8 R8;replace hd17:rest_=([a1.self_]++a1.args).drop k13:=hd17;rcases rest_ with _|⟨x19,rest16⟩
  ·have hlt21:=I8 hd17;replace h15:=(aC8.eq_1 _ _ _ _).symm.trans h15;refine j6 hn ?_;refine j5.seqQ fun _ _ X9 _=>?_;refine l8 hn ?_;refine d9 hlt21 ?_;refine F8 hn ?_;refine X9 _ _ _ ?_;refine X8 _ _ _ ?_;refine E7 _ _ ?_;refine A6 _ _ ?_;exact jn ⟨_,sj h15⟩ []
  ·obtain ⟨hx20,hd2,hlt21⟩:=H7 hd17;replace h15:=(aC8.eq_2 _ _ _ _ _ _).symm.trans h15;refine j6 hn ?_;refine j5.seqQ fun _ A10 _ _=>?_;refine l8 hn ?_;refine j3 hlt21 ?_;refine q9 hn ?_;refine A10 _ _ ?_;refine j5.seqQ fun _ A11 _ R11=>?_;refine j5.blkQ fun _ A12 _ _ R12=>?_;refine j6 hn ?_;obtain ⟨x22,hx23,h15⟩:=j4 h15;refine O8 hx23 ?_;refine I7 (u6 hx23).2 ?_;refine j6 hn ?_;refine w9 (fun _=>?_);obtain ⟨r25,hr26,h15⟩:=j4 h15;show l5 _ _ _ _ _;refine cA (bL8 N x22 (a0.heap.length:Int) r25 hr26) ?_;refine j6 hn ?_;refine l8 hn ?_;refine l6 h15 (fun hb27 h15=>?_) (fun hb27 h15=>?_)
   ·refine j6 hn ?_;refine got hn ?_;refine R12 _ _ ?_;refine R11 _ _ ?_;refine R8 _ _ ?_;refine R7 _ _ ?_;refine R6 _ _ ?_;refine R5 _ _ ?_;obtain rfl:=oI h15;obtain rfl:=oI h;exact ⟨[],_,fm⟩
   refine q9 hn ?_;refine A12 _ _ ?_;refine A11 _ _ ?_;refine q8 hn ?_;refine Or.inl (And.intro (V7 hx20 hl12) ?_);refine A8 _ _ ?_;exact jn ⟨(rest16,k13+1),hd2,h15⟩ [] (by show rest16.length < rest16.length+1; omega)
 rintro ⟨⟨⟩,rfl⟩;refine A5 _ _ ?_;refine j6 hn ?_;refine got hn ?_;obtain rfl:=oI h;exact ⟨[],_,fm⟩

theorem aA4 (N:Nat) (a0:(List Ob)) (a1:V) (r:Int) (h:aL1 N a0 a1=some r):Spec Tryz.prog 164 [] [.sl 2 (List.map D8 a0),.agg (eV a1)] (.int r) [] []:=by
 refine Spec.of u7 Tryz.func164 rfl Tryz.ntmps164 (by kernel_rfl) rfl rfl rfl fun Γ hn=>?_;unfold aL1 at h;refine j6 hn ?_;refine j5.seqQ fun _ A0 _ R0=>?_;refine j6 hn ?_;refine j5.blkQ fun _ A1 _ _ R1=>?_;refine j6 hn ?_;refine l8 hn ?_;refine l6 h (fun hb1 h=>?_) (fun hb1 h=>?_)
 ·refine j6 hn ?_;refine got hn ?_;refine R1 _ _ ?_;refine R0 _ _ ?_;obtain rfl:=oI h;exact ⟨[],_,fm⟩
 refine j5.seqQ fun _ A2 _ _=>?_;refine j6 hn ?_;obtain ⟨o4,h3,h⟩:=j4 h;refine jk (ι:={ s // o4=s }) hn (fun s=>[(9,.bool s.1)]) (fun s=>[]) [(0,_),(3,_),(6,_)] [(3,_)] (fun _ A3 _ _=>?_) ?_
 ·refine l8 hn ?_;refine l6 h3 (fun hb5 h3=>?_) (fun hb5 h3=>?_)
  ·refine q9 hn ?_;refine A3 _ _ ?_;exact jn ⟨_,sj h3⟩ []
  refine q8 hn ?_;refine A3 _ _ ?_;exact jn ⟨_,sj h3⟩ []
 rintro ⟨v2,hv_⟩;replace hv_:=hv_.symm;subst hv_;refine A2 _ _ ?_;refine l8 hn ?_;refine l6 h (fun hb6 h=>?_) (fun hb6 h=>?_)
 ·refine j6 hn ?_;refine got hn ?_;refine R1 _ _ ?_;refine R0 _ _ ?_;obtain rfl:=oI h;exact ⟨[],_,fm⟩
 refine j6 hn ?_;refine l8 hn ?_;refine l6 h (fun hb7 h=>?_) (fun hb7 h=>?_)
 ·refine j6 hn ?_;refine got hn ?_;refine R1 _ _ ?_;refine R0 _ _ ?_;obtain rfl:=oI h;exact ⟨[],_,fm⟩
 refine q9 hn ?_;refine A1 _ _ ?_;refine A0 _ _ ?_;refine j5.seqQ fun _ A4 _ R4=>?_;refine j5.seqQ fun _ A5 _ _=>?_;obtain ⟨o10,h9,h⟩:=j4 h;refine jk (ι:={ s // o10=s }) hn (fun s=>[(28,.bool s.1)]) (fun s=>[]) [(0,_),(3,_)] [(3,_)] (fun _ A6 _ _=>?_) ?_
 ·refine q8 hn ?_;refine l6 h9 (fun hb11 h9=>?_) (fun hb11 h9=>?_)
  ·refine j3 hb11 ?_;refine j3 hb11 ?_;refine j3 hb11 ?_;refine l6 h9 (fun hb12 h9=>?_) (fun hb12 h9=>?_)
   ·refine j3 hb12 ?_;refine j3 hb12 ?_;refine j3 hb12 ?_;refine w9 (fun _=>?_);refine j3 hb12 ?_;refine j3 hb12 ?_;refine A6 _ _ ?_;exact jn ⟨_,sj h9⟩ []
   refine d9 hb12 ?_;refine d9 hb12 ?_;refine d9 hb12 ?_;refine d9 hb12 ?_;refine d9 hb12 ?_;refine A6 _ _ ?_;exact jn ⟨_,sj h9⟩ []
  refine d9 hb11 ?_;refine d9 hb11 ?_;refine d9 hb11 ?_;refine A6 _ _ ?_;exact jn ⟨_,sj h9⟩ []
 rintro ⟨v8,hv_⟩;replace hv_:=hv_.symm;subst hv_;refine A5 _ _ ?_;refine l8 hn ?_;refine l6 h (fun hb14 h=>?_) (fun hb14 h=>?_)
 ·refine j6 hn ?_;obtain ⟨x15,hx16,h⟩:=j4 h;refine K6 hx16 ?_;refine got hn ?_;refine R4 _ _ ?_;obtain rfl:=oI h;exact ⟨[],_,fm⟩
 refine q9 hn ?_;refine A4 _ _ ?_;refine j6 hn ?_;refine got hn ?_;obtain rfl:=oI h;exact ⟨[],_,fm⟩

theorem aA1 (N:Nat) (a0:Wd) (a1:Int) (a2:ByteArray) (r:(Int×Int)) (h:aD1 N a0 a1 a2=some r):Spec Tryz.prog 73 [] [.agg (P6 a0),.int a1,.str a2] (.tup [.int r.1,.int r.2]) [] []:=by
 refine Spec.of u7 Tryz.func73 rfl Tryz.ntmps73 (by kernel_rfl) rfl rfl rfl fun Γ hn=>?_;unfold aD1 at h;refine j6 hn ?_;refine j5.seqQ fun _ A0 _ R0=>?_;refine j6 hn ?_;obtain ⟨o6,h7,h⟩:=j4 h;refine jk (ι:={ s // o6=F9.next s }) hn (fun s=>[]) (fun s=>[]) [] [] (fun _ A1 _ R1=>?_) ?_
 ·refine j5.blkQ fun _ _ E2 _ R2=>?_;refine lq (ι:={ q:(Nat×Int×Int) // aP9 N a0 a2 q.1 q.2.1 q.2.2=some o6 }) hn (fun q=>[(1,.int q.1.2.1),(8,.int q.1.2.2)]) (fun q=>[]) (fun q=>q.1.1) [(2,_),(3,_)] [(3,_)] ⟨(N,a1,(0:Int)),h7⟩ [] ?_;rintro ⟨⟨n_,v2,v3⟩,h7⟩ _ A3 X3 R3;rcases n_ with _|n10
  ·rw [aP9.eq_1] at h7;cases h7
  ·replace h7:=(aP9.eq_2 _ _ _ _ _ _).symm.trans h7;refine j5.seqQ fun _ A4 X4 _=>?_;refine j5.seqQ fun _ A5 _ _=>?_;obtain ⟨o13,h12,h7⟩:=j4 h7;refine jk (ι:={ s // o13=s }) hn (fun s=>[(26,.bool s.1)]) (fun s=>[]) [(1,_),(2,_),(3,_),(8,_)] [(3,_)] (fun _ A6 _ _=>?_) ?_
   ·refine q8 hn ?_;refine l6 h12 (fun hb14 h12=>?_) (fun hb14 h12=>?_)
    ·refine j3 hb14 ?_;refine j3 hb14 ?_;refine j3 hb14 ?_;refine w9 (fun _=>?_);refine j3 hb14 ?_;refine j3 hb14 ?_;refine l6 h12 (fun hb16 h12=>?_) (fun hb16 h12=>?_)
     ·refine j3 hb16 ?_;refine j3 hb16 ?_;refine j3 hb16 ?_;refine w9 (fun _=>?_);refine j3 hb16 ?_;refine j3 hb16 ?_;refine A6 _ _ ?_;exact jn ⟨_,sj h12⟩ []
     refine d9 hb16 ?_;refine d9 hb16 ?_;refine d9 hb16 ?_;refine d9 hb16 ?_;refine d9 hb16 ?_;refine A6 _ _ ?_;exact jn ⟨_,sj h12⟩ []
    refine d9 hb14 ?_;refine d9 hb14 ?_;refine d9 hb14 ?_;refine d9 hb14 ?_;refine d9 hb14 ?_;refine A6 _ _ ?_;exact jn ⟨_,sj h12⟩ []
   rintro ⟨v11,hv_⟩;replace hv_:=hv_.symm;subst hv_;refine A5 _ _ ?_;refine l8 hn ?_;refine l6 h7 (fun hb18 h7=>?_) (fun hb18 h7=>?_)
   ·refine q9 hn ?_;refine A4 _ _ ?_;refine j5.seqQ fun _ A7 _ R7=>?_;refine j5.blkQ fun _ A8 _ _ R8=>?_;refine j5.seqQ fun _ A9 _ R9=>?_;refine j6 hn ?_;obtain ⟨x19,hx20,h7⟩:=j4 h7;refine K6 hx20 ?_;obtain ⟨r21,hr22,h7⟩:=j4 h7;show l5 _ _ _ _ _;refine cA (V6 N x19.methods a2 (fun x0_ x1_=>aR4 N x0_ x1_) (fun x0_ x1_ y_ hy_=>bL5 N x0_ x1_ y_ hy_) r21 hr22) ?_;refine kp [(1,_),(2,_),(3,_),(8,_),(9,_),(10,_)] [(3,_)] ?_;refine j6 hn ?_;refine l8 hn ?_;refine l6 h7 (fun hb23 h7=>?_) (fun hb23 h7=>?_)
    ·refine j6 hn ?_;refine got hn ?_;refine R9 _ _ ?_;refine R8 _ _ ?_;refine R7 _ _ ?_;refine R3 _ _ ?_;refine R2 _ _ ?_;refine R1 _ _ ?_;refine R0 _ _ ?_;obtain rfl:=oI h7;obtain rfl:=oI h;exact ⟨[],_,fm⟩
    refine q9 hn ?_;refine A9 _ _ ?_;refine q8 hn ?_;obtain ⟨x24,hx25,h7⟩:=j4 h7;refine K6 hx25 ?_;refine A8 _ _ ?_;refine A7 _ _ ?_;refine q8 hn ?_;refine Or.inr ?_;refine A3 _ _ ?_;exact jn ⟨(n10,x24.super,(wr (v3+(1:Int)))),h7⟩ [] (by show n10 < n10+1; omega)
   refine F8 hn ?_;refine X4 _ _ _ ?_;refine X3 _ _ _ ?_;refine E2 _ _ ?_;refine A1 _ _ ?_;exact jn ⟨_,sj h7⟩ []
 rintro ⟨⟨⟩,rfl⟩;refine A0 _ _ ?_;refine j6 hn ?_;refine got hn ?_;obtain rfl:=oI h;exact ⟨[],_,fm⟩

theorem M9 (N:Nat) (a0:l7) (a1:Int) {Kl:Nat} {cl_0:List AV} {Kq:Nat} (r:l7) (h:I4 N a0 a1=some r):Spec Tryz.prog 165 [(1000,.box [.ptr 1001 0,.fn Kl [.fp cl_0],.fn Kq [],.int a0.fuel,.int a0.sends,.int a0.turns,.own 1003,.int a0.back.k,.int a0.back.n,.int a0.err] 251)] [.ptr 1000 0,.int a1] (.tup []) [(1000,.box [.ptr 1001 0,.fn Kl [.fp cl_0],.fn Kq [],.int r.fuel,.int r.sends,.int r.turns,.own 1003,.int r.back.k,.int r.back.n,.int r.err] 251)] []:=by
 refine Spec.of u7 Tryz.func165 rfl Tryz.ntmps165 (by kernel_rfl) rfl rfl rfl fun Γ hn=>?_;unfold I4 at h;refine j5.snoc ?_;refine j6 hn ?_;obtain ⟨o3,h2,h⟩:=j4 h;refine jk (ι:={ s // o3=s }) hn (fun s=>[]) (fun s=>[(1000,.box [.ptr 1001 0,.fn Kl [.fp cl_0],.fn Kq [],.int a0.fuel,.int a0.sends,.int a0.turns,.own 1003,.int a0.back.k,.int a0.back.n,.int s.1] 251)]) [(0,_)] [] (fun _ A0 _ _=>?_) ?_
 ·refine l8 hn ?_;refine l6 h2 (fun hb4 h2=>?_) (fun hb4 h2=>?_)
  ·refine q8 hn ?_;refine A0 _ _ ?_;exact jn ⟨_,sj h2⟩ []
  refine q9 hn ?_;refine A0 _ _ ?_;exact jn ⟨_,sj h2⟩ []
 rintro ⟨v1,hv_⟩;replace hv_:=hv_.symm;subst hv_;refine y5.done ?_;obtain rfl:=oI h;exact ⟨[],_,fm⟩

theorem aG5 (N:Nat) (a0:l7) (a1:Bool) {Kl:Nat} {cl_0:List AV} {Kq:Nat} (r:(Bool×l7)) (h:T9 N a0 a1=some r):Spec Tryz.prog 195 [(1000,.box [.ptr 1001 0,.fn Kl [.fp cl_0],.fn Kq [],.int a0.fuel,.int a0.sends,.int a0.turns,.own 1003,.int a0.back.k,.int a0.back.n,.int a0.err] 251),(1003,.deep 10 288 [(7,(2,29)),(8,(2,29))] (List.map l9 a0.frames) [] 1005)] [.ptr 1000 0,.bool a1] (.bool r.1) [(1000,.box [.ptr 1001 0,.fn Kl [.fp cl_0],.fn Kq [],.int r.2.fuel,.int r.2.sends,.int r.2.turns,.own 1003,.int r.2.back.k,.int r.2.back.n,.int r.2.err] 251),(1003,.deep 10 288 [(7,(2,29)),(8,(2,29))] (List.map l9 a0.frames) [] 1005)] []:=by
 refine Spec.of u7 Tryz.func195 rfl Tryz.ntmps195 (by kernel_rfl) rfl rfl rfl fun Γ hn=>?_;unfold T9 at h;refine j6 hn ?_;refine j5.seqQ fun _ A0 _ R0=>?_;obtain ⟨o8,h7,h⟩:=j4 h;refine jk (ι:={ s // o8=F9.next s }) hn (fun s=>[]) (fun s=>[(1000,.box [.ptr 1001 0,.fn Kl [.fp cl_0],.fn Kq [],.int s.1.1,.int s.1.2.1,.int s.1.2.2.1,.own 1003,.int s.1.2.2.2.1,.int s.1.2.2.2.2.1,.int s.1.2.2.2.2.2] 251)]) [(0,_)] [(1003,_)] (fun _ A1 _ R1=>?_) ?_
 ·refine j5.blkQ fun _ A2 _ _ R2=>?_;refine j5.seqQ fun _ A3 _ _=>?_;refine C9 hn (by kernel_rfl) ?_;refine A3 _ _ ?_;obtain ⟨o16,h15,h7⟩:=j4 h7;refine jk (ι:={ s // o16=F9.next s }) hn (fun s=>[]) (fun s=>[(1000,.box [.ptr 1001 0,.fn Kl [.fp cl_0],.fn Kq [],.int s.1.1,.int s.1.2.1,.int s.1.2.2.1,.own 1003,.int s.1.2.2.2.1,.int s.1.2.2.2.2.1,.int s.1.2.2.2.2.2] 251)]) [(0,_)] [(1003,_)] (fun _ A4 _ R4=>?_) ?_
  ·refine l8 hn ?_;refine l6 h15 (fun hb17 h15=>?_) (fun hb17 h15=>?_)
   ·refine q8 hn ?_;obtain ⟨r18,hr19,h15⟩:=j4 h15;show l5 _ _ _ _ _;refine cA (M9 N (⟨(⟨a0.w.classes,a0.w.heap,a0.w.epoch⟩:Wd),a0.fuel,a0.sends,a0.turns,a0.frames,a0.back,a0.err⟩:l7) (13:Int) r18 hr19) ?_;refine A4 _ _ ?_;exact jn ⟨_,sj h15⟩ []
   refine j5.seqQ fun _ A5 _ _=>?_;obtain ⟨o22,h21,h15⟩:=j4 h15;refine jk (ι:={ s // o22=s }) hn (fun s=>[(24,.bool s.1)]) (fun s=>[]) [(0,_)] [(1000,_),(1003,_)] (fun _ A6 _ _=>?_) ?_
   ·refine q8 hn ?_;refine l6 h21 (fun hb23 h21=>?_) (fun hb23 h21=>?_)
    ·refine j3 hb23 ?_;refine j3 hb23 ?_;refine j3 hb23 ?_;refine j3 hb23 ?_;refine w9 (fun _=>?_);refine j3 hb23 ?_;refine j3 hb23 ?_;refine A6 _ _ ?_;exact jn ⟨_,sj h21⟩ []
    refine d9 hb23 ?_;refine d9 hb23 ?_;refine d9 hb23 ?_;refine d9 hb23 ?_;refine d9 hb23 ?_;refine d9 hb23 ?_;refine A6 _ _ ?_;exact jn ⟨_,sj h21⟩ []
   rintro ⟨v20,hv_⟩;replace hv_:=hv_.symm;subst hv_;refine A5 _ _ ?_;refine l8 hn ?_;refine l6 h15 (fun hb25 h15=>?_) (fun hb25 h15=>?_)
   ·refine q8 hn ?_;obtain ⟨r26,hr27,h15⟩:=j4 h15;show l5 _ _ _ _ _;refine cA (M9 N (⟨(⟨a0.w.classes,a0.w.heap,a0.w.epoch⟩:Wd),a0.fuel,a0.sends,a0.turns,a0.frames,a0.back,a0.err⟩:l7) (14:Int) r26 hr27) ?_;refine A4 _ _ ?_;exact jn ⟨_,sj h15⟩ []
   refine j6 hn ?_;refine Or.inr ?_;refine j6 hn ?_;refine got hn ?_;refine R4 _ _ ?_;refine R2 _ _ ?_;refine R1 _ _ ?_;refine R0 _ _ ?_;obtain rfl:=oI h15;obtain rfl:=oI h7;obtain rfl:=oI h;exact ⟨[],_,fm⟩
  rintro ⟨⟨v9,v10,v11,v12,v13,v14⟩,rfl⟩;refine A2 _ _ ?_;refine A1 _ _ ?_;exact jn ⟨_,sj h7⟩ []
 rintro ⟨⟨v1,v2,v3,v4,v5,v6⟩,rfl⟩;refine A0 _ _ ?_;refine j6 hn ?_;refine got hn ?_;obtain rfl:=oI h;exact ⟨[],_,fm⟩

theorem a10 (N:Nat) (a0:Int) (r:V) (h:aU4 N a0=some r):Spec Tryz.prog 225 [] [.int a0] (.agg (eV r)) [] []:=by
 refine Spec.of u7 Tryz.func225 rfl Tryz.ntmps225 (by kernel_rfl) rfl rfl rfl fun Γ hn=>?_;unfold aU4 at h;refine j6 hn ?_;refine j6 hn ?_;refine dC1 (by decide) (by decide) ?_;refine got hn ?_;obtain rfl:=oI h;exact ⟨[],_,fm⟩

theorem aR1 (N:Nat) (a0:Bool) (r:V) (h:a03 N a0=some r):Spec Tryz.prog 226 [] [.bool a0] (.agg (eV r)) [] []:=by
 refine Spec.of u7 Tryz.func226 rfl Tryz.ntmps226 (by kernel_rfl) rfl rfl rfl fun Γ hn=>?_;unfold a03 at h;refine j6 hn ?_;refine j5.seqQ fun _ A0 _ R0=>?_;refine j6 hn ?_;refine l8 hn ?_;refine l6 h (fun hb1 h=>?_) (fun hb1 h=>?_)
 ·refine j6 hn ?_;refine got hn ?_;refine R0 _ _ ?_;obtain rfl:=oI h;exact ⟨[],_,fm⟩
 refine q9 hn ?_;refine A0 _ _ ?_;refine j6 hn ?_;refine got hn ?_;obtain rfl:=oI h;exact ⟨[],_,fm⟩

theorem bB1 (N:Nat) (a0:Int) (a1:V) (a2:V) (r:(V×Int)) (h:bN7 N a0 a1 a2=some r):Spec Tryz.prog 196 [] [.int a0,.agg (eV a1),.agg (eV a2)] (.tup [.agg (eV r.1),.int r.2]) [] []:=by
 refine Spec.of u7 Tryz.func196 rfl Tryz.ntmps196 (by kernel_rfl) rfl rfl rfl fun Γ hn=>?_;unfold bN7 at h;refine j6 hn ?_;refine j5.seqQ fun _ A0 _ R0=>?_;refine j5.seqQ fun _ A1 _ _=>?_;obtain ⟨o3,h2,h⟩:=j4 h;refine jk (ι:={ s // o3=s }) hn (fun s=>[(16,.bool s.1)]) (fun s=>[]) [(0,_),(4,_),(5,_),(6,_)] [(4,_),(5,_),(6,_)] (fun _ A2 _ _=>?_) ?_
 ·refine q8 hn ?_;refine l6 h2 (fun hb4 h2=>?_) (fun hb4 h2=>?_)
  ·refine j3 hb4 ?_;refine j3 hb4 ?_;refine j3 hb4 ?_;refine A2 _ _ ?_;exact jn ⟨_,sj h2⟩ []
  refine d9 hb4 ?_;refine d9 hb4 ?_;refine d9 hb4 ?_;refine A2 _ _ ?_;exact jn ⟨_,sj h2⟩ []
 rintro ⟨v1,hv_⟩;replace hv_:=hv_.symm;subst hv_;refine A1 _ _ ?_;refine l8 hn ?_;refine l6 h (fun hb5 h=>?_) (fun hb5 h=>?_)
 ·refine j6 hn ?_;refine got hn ?_;refine R0 _ _ ?_;obtain rfl:=oI h;exact ⟨[],_,fm⟩
 refine q9 hn ?_;refine A0 _ _ ?_;refine j6 hn ?_;refine j5.seqQ fun _ A3 _ R3=>?_;refine j6 hn ?_;refine j5.blkQ fun _ A4 _ _ R4=>?_;refine j6 hn ?_;refine l8 hn ?_;refine l6 h (fun hb6 h=>?_) (fun hb6 h=>?_)
 ·refine j6 hn ?_;refine Or.inr ?_;obtain ⟨r7,hr8,h⟩:=j4 h;show l5 _ _ _ _ _;refine cA (a10 N (wr (a1.n+a2.n)) r7 hr8) ?_;refine got hn ?_;refine R4 _ _ ?_;refine R3 _ _ ?_;obtain rfl:=oI h;exact ⟨[],_,fm⟩
 refine j6 hn ?_;refine l8 hn ?_;refine l6 h (fun hb9 h=>?_) (fun hb9 h=>?_)
 ·refine j6 hn ?_;refine Or.inr ?_;obtain ⟨r10,hr11,h⟩:=j4 h;show l5 _ _ _ _ _;refine cA (a10 N (wr (a1.n - a2.n)) r10 hr11) ?_;refine got hn ?_;refine R4 _ _ ?_;refine R3 _ _ ?_;obtain rfl:=oI h;exact ⟨[],_,fm⟩
 refine j6 hn ?_;refine l8 hn ?_;refine l6 h (fun hb12 h=>?_) (fun hb12 h=>?_)
 ·refine j6 hn ?_;refine Or.inr ?_;obtain ⟨r13,hr14,h⟩:=j4 h;show l5 _ _ _ _ _;refine cA (a10 N (wr (a1.n*a2.n)) r13 hr14) ?_;refine got hn ?_;refine R4 _ _ ?_;refine R3 _ _ ?_;obtain rfl:=oI h;exact ⟨[],_,fm⟩
 refine j6 hn ?_;refine l8 hn ?_;refine l6 h (fun hb15 h=>?_) (fun hb15 h=>?_)
 ·refine j6 hn ?_;obtain ⟨r16,hr17,h⟩:=j4 h;show l5 _ _ _ _ _;refine cA (aR1 N (decide (a1.n < a2.n)) r16 hr17) ?_;refine got hn ?_;refine R4 _ _ ?_;refine R3 _ _ ?_;obtain rfl:=oI h;exact ⟨[],_,fm⟩
 refine j6 hn ?_;refine l8 hn ?_;refine l6 h (fun hb18 h=>?_) (fun hb18 h=>?_)
 ·refine kp [(4,_),(5,_),(6,_)] [(4,_),(5,_),(6,_)] ?_;refine j6 hn ?_;obtain ⟨r19,hr20,h⟩:=j4 h;show l5 _ _ _ _ _;refine cA (aR1 N (decide (a1.n=a2.n)) r19 hr20) ?_;refine got hn ?_;refine R4 _ _ ?_;refine R3 _ _ ?_;obtain rfl:=oI h;exact ⟨[],_,fm⟩
 refine q9 hn ?_;refine A4 _ _ ?_;refine A3 _ _ ?_;refine kp [(6,_)] [(6,_)] ?_;refine j6 hn ?_;refine got hn ?_;obtain rfl:=oI h;exact ⟨[],_,fm⟩

theorem aV5 (N:Nat) (a0:l7) (a1:V) {Kl:Nat} {cl_0:List AV} {Kq:Nat} (r:l7) (h:Y1 N a0 a1=some r):Spec Tryz.prog 197 [(1000,.box [.ptr 1001 0,.fn Kl [.fp cl_0],.fn Kq [],.int a0.fuel,.int a0.sends,.int a0.turns,.own 1003,.int a0.back.k,.int a0.back.n,.int a0.err] 251),(1003,.deep 10 288 [(7,(2,29)),(8,(2,29))] (List.map l9 a0.frames) [] 1005)] [.ptr 1000 0,.agg (eV a1)] (.tup []) [(1000,.box [.ptr 1001 0,.fn Kl [.fp cl_0],.fn Kq [],.int r.fuel,.int r.sends,.int r.turns,.own 1003,.int r.back.k,.int r.back.n,.int r.err] 251),(1003,.deep 10 288 [(7,(2,29)),(8,(2,29))] (List.map l9 r.frames) [] 5),(5,.gone)] [5]:=by
 refine Spec.of u7 Tryz.func197 rfl Tryz.ntmps197 (by kernel_rfl) rfl rfl rfl fun Γ hn=>?_;unfold Y1 at h;refine j5.snoc ?_;refine j6 hn ?_;refine j5.seqQ fun _ A0 _ R0=>?_;refine j6 hn ?_;refine w9 (fun _=>?_);refine l8 hn ?_;refine l6 h (fun hb2 h=>?_) (fun hb2 h=>?_)
 ·refine j6 hn ?_;refine j5.gh (Gh.resh 1003 501 rfl rfl rfl rfl) (fun _=>?_);refine got hn ?_;refine R0 _ _ ?_;obtain rfl:=oI h;exact ⟨[(5,501)],_,fm⟩
 refine q9 hn ?_;refine A0 _ _ ?_;refine j5.seqQ fun _ A1 _ _=>?_;refine C9 hn (by kernel_rfl) ?_;refine w9 (fun _=>?_);refine Or.inr ?_;obtain ⟨x4,hx5,h⟩:=j4 h;refine ixD hx5 rfl rfl ?_;refine A1 _ _ ?_;refine j5.gh (Gh.detach 1003 502 503 ((wr ((a0.frames.length:Int) - (1:Int))).toNat) 8 rfl rfl (I9 (u6 hx5).2) rfl rfl rfl rfl rfl rfl rfl rfl) (fun _=>?_);refine kp [(0,_),(3,_),(4,_)] [(3,_),(502,_),(503,_),(1000,_),(1003,_)] ?_;refine C9 hn (by kernel_rfl) ?_;refine G7 (u6 hx5).2 rfl rfl (by decide) rfl ?_;refine Exists.intro (List.map eV [a1]) (And.intro aT ?_);obtain ⟨hg6,h⟩:=C8 h;refine Y2 (l2:=[a1]) hg6 (y9 _) ?_;refine aH9 (u6 hx5).2 rfl rfl (by decide) ?_;refine y5.gh (Gh.attach (l':=List.map l9 (a0.frames.set ((wr ((a0.frames.length:Int) - (1:Int))).toNat) (⟨x4.class_,x4.method,x4.fast,x4.code,x4.self_,x4.args,x4.temps,(x4.stack++[a1]),x4.at_⟩:p8))) 1003 33 504 ((wr ((a0.frames.length:Int) - (1:Int))).toNat) 8 rfl rfl rfl (I9 (u6 hx5).2) rfl rfl (Q5 rfl) rfl rfl rfl rfl rfl rfl) (fun _=>?_);refine y5.done ?_;obtain rfl:=oI h;exact ⟨[(5,504)],_,fm⟩

theorem aS0 (N:Nat) (a0:l7) (gq:Int→Int→Option (Fs×Bool)) (a1:Int) (a2:Int) (a3:V) (a4:(List V)) {Kl:Nat} {cl_0:List AV} {Kq:Nat} (hgq:∀x0_ x1_ y_,gq x0_ x1_=some y_→Spec Tryz.prog Kq [] [.int x0_,.int x1_] (.tup [.agg (eFs y_.1),.bool y_.2]) [] []) (r:l7) (h:S9 N a0 gq a1 a2 a3 a4=some r):Spec Tryz.prog 166 [(1000,.box [.ptr 1001 0,.fn Kl [.fp cl_0],.fn Kq [],.int a0.fuel,.int a0.sends,.int a0.turns,.own 1003,.int a0.back.k,.int a0.back.n,.int a0.err] 251),(1001,.box [.sl 4 (List.map F4 a0.w.classes),.own 1002,.int a0.w.epoch] 40),(1003,.deep 10 288 [(7,(2,29)),(8,(2,29))] (List.map l9 a0.frames) [] 1005)] [.ptr 1000 0,.int a1,.int a2,.agg (eV a3),.sl 2 (List.map eV a4)] (.tup []) [(1000,.box [.ptr 1001 0,.fn Kl [.fp cl_0],.fn Kq [],.int r.fuel,.int r.sends,.int r.turns,.own 4,.int r.back.k,.int r.back.n,.int r.err] 251),(1001,.box [.sl 4 (List.map F4 a0.w.classes),.own 1002,.int a0.w.epoch] 40),(4,.deep 10 288 [(7,(2,29)),(8,(2,29))] (List.map l9 r.frames) [] 5),(5,.gone),(1003,.gone)] [5,4]:=by
 refine Spec.of u7 Tryz.func166 rfl Tryz.ntmps166 (by kernel_rfl) rfl rfl rfl fun Γ hn=>?_;unfold S9 at h;refine j5.snoc ?_;refine j6 hn ?_;refine j6 hn ?_;obtain ⟨x1,hx2,h⟩:=j4 h;refine K6 hx2 ?_;obtain ⟨x3,hx4,h⟩:=j4 h;refine K6 hx4 ?_;refine j5.seqQ fun _ A0 _ R0=>?_;refine kp [(0,_),(1,_),(2,_),(4,_),(8,_),(10,_)] [(8,_),(1000,_),(1001,_),(1003,_)] ?_;refine j6 hn ?_;refine w9 (fun _=>?_);refine l8 hn ?_;refine l6 h (fun hb6 h=>?_) (fun hb6 h=>?_)
 ·refine j6 hn ?_;obtain ⟨r7,hr8,h⟩:=j4 h;show l5 _ _ _ _ _;refine cA (M9 N (⟨(⟨a0.w.classes,a0.w.heap,a0.w.epoch⟩:Wd),a0.fuel,a0.sends,a0.turns,a0.frames,a0.back,a0.err⟩:l7) (8:Int) r7 hr8) ?_;refine j5.gh (Gh.reidD 1000 6 1003 501 502 rfl rfl rfl rfl rfl rfl rfl rfl rfl rfl rfl rfl) (fun _=>?_);refine got hn ?_;refine R0 _ _ ?_;obtain rfl:=oI h;exact ⟨[(4,501),(5,502)],_,fm⟩
 refine q9 hn ?_;refine A0 _ _ ?_;refine j5.seqQ fun _ A1 _ R1=>?_;refine j6 hn ?_;refine l8 hn ?_;refine l6 h (fun hb9 h=>?_) (fun hb9 h=>?_)
 ·refine j5.seqQ fun _ A2 _ R2=>?_;refine kp [(0,_),(4,_),(8,_),(10,_)] [(8,_),(1000,_),(1001,_),(1003,_)] ?_;refine j6 hn ?_;obtain ⟨r10,hr11,h⟩:=j4 h;show l5 _ _ _ _ _;refine cA (aG5 N (⟨(⟨a0.w.classes,a0.w.heap,a0.w.epoch⟩:Wd),a0.fuel,a0.sends,a0.turns,a0.frames,a0.back,a0.err⟩:l7) false r10 hr11) ?_;refine l8 hn ?_;refine l6 h (fun hb12 h=>?_) (fun hb12 h=>?_)
  ·refine j5.gh (Gh.reidD 1000 6 1003 503 504 rfl rfl rfl rfl rfl rfl rfl rfl rfl rfl rfl rfl) (fun _=>?_);refine got hn ?_;refine R2 _ _ ?_;refine R1 _ _ ?_;obtain rfl:=oI h;exact ⟨[(4,503),(5,504)],_,fm⟩
  refine q9 hn ?_;refine A2 _ _ ?_;refine j5.seqQ fun _ A3 _ _=>?_;refine C9 hn (by kernel_rfl) ?_;obtain ⟨x13,hx14,h⟩:=j4 h;refine K6 hx14 ?_;obtain ⟨r15,hr16,h⟩:=j4 h;show l5 _ _ _ _ _;refine cA (bB1 N x3.prim a3 x13 r15 hr16) ?_;refine A3 _ _ ?_;refine j5.seqQ fun _ A4 _ R4=>?_;refine kp [(0,_),(11,_),(12,_)] [(11,_),(1000,_),(1001,_),(1003,_)] ?_;refine j6 hn ?_;refine l8 hn ?_;refine l6 h (fun hb17 h=>?_) (fun hb17 h=>?_)
  ·refine j6 hn ?_;obtain ⟨r18,hr19,h⟩:=j4 h;show l5 _ _ _ _ _;refine cA (M9 N (⟨(⟨a0.w.classes,a0.w.heap,a0.w.epoch⟩:Wd),r10.2.fuel,r10.2.sends,r10.2.turns,a0.frames,r10.2.back,r10.2.err⟩:l7) r15.2 r18 hr19) ?_;refine j5.gh (Gh.reidD 1000 6 1003 505 506 rfl rfl rfl rfl rfl rfl rfl rfl rfl rfl rfl rfl) (fun _=>?_);refine got hn ?_;refine R4 _ _ ?_;refine R1 _ _ ?_;obtain rfl:=oI h;exact ⟨[(4,505),(5,506)],_,fm⟩
  refine q9 hn ?_;refine A4 _ _ ?_;refine j6 hn ?_;obtain ⟨r20,hr21,h⟩:=j4 h;show l5 _ _ _ _ _;refine cA ((aV5 N (⟨(⟨a0.w.classes,a0.w.heap,a0.w.epoch⟩:Wd),r10.2.fuel,r10.2.sends,r10.2.turns,a0.frames,r10.2.back,r10.2.err⟩:l7) r15.1 r20 hr21).sw 5 507) ?_;refine j5.gh (Gh.reidD 1000 6 1003 508 509 rfl rfl rfl rfl rfl rfl rfl rfl rfl rfl rfl rfl) (fun _=>?_);refine got hn ?_;refine R1 _ _ ?_;obtain rfl:=oI h;exact ⟨[(4,508),(5,509)],_,fm⟩
 refine q9 hn ?_;refine A1 _ _ ?_;refine j5.seqQ fun _ A5 _ R5=>?_;refine kp [(0,_),(1,_),(2,_),(4,_),(8,_),(10,_)] [(8,_),(1000,_),(1001,_),(1003,_)] ?_;refine j6 hn ?_;obtain ⟨r22,hr23,h⟩:=j4 h;show l5 _ _ _ _ _;refine cA (aG5 N (⟨(⟨a0.w.classes,a0.w.heap,a0.w.epoch⟩:Wd),a0.fuel,a0.sends,a0.turns,a0.frames,a0.back,a0.err⟩:l7) true r22 hr23) ?_;refine l8 hn ?_;refine l6 h (fun hb24 h=>?_) (fun hb24 h=>?_)
 ·refine j5.gh (Gh.reidD 1000 6 1003 510 511 rfl rfl rfl rfl rfl rfl rfl rfl rfl rfl rfl rfl) (fun _=>?_);refine got hn ?_;refine R5 _ _ ?_;obtain rfl:=oI h;exact ⟨[(4,510),(5,511)],_,fm⟩
 refine q9 hn ?_;refine A5 _ _ ?_;refine j5.seqQ fun _ A6 _ _=>?_;refine kp [(0,_),(1,_),(2,_),(4,_),(8,_),(10,_)] [(8,_),(1000,_),(1001,_),(1003,_)] ?_;refine C9 hn (by kernel_rfl) ?_;obtain ⟨r25,hr26,h⟩:=j4 h;show l5 _ _ _ _ _;refine cA ((aA7 N a4 r25 hr26).sw 0 77) ?_;obtain ⟨hg27,h⟩:=C8 h;refine mkM (enc:=eV) (x:=(⟨(0:Int),(0:Int)⟩:V)) hg27 aT ?_;refine A6 _ _ ?_;refine j5.seqQ fun _ A7 _ _=>?_;refine kp [(0,_),(1,_),(2,_),(13,_)] [(13,_),(77,_),(82,_),(1000,_),(1001,_),(1003,_)] ?_;refine j6 hn ?_;obtain ⟨r28,hr29,h⟩:=j4 h;show l5 _ _ _ _ _;refine cA (hgq _ _ _ hr29) ?_;refine j6 hn ?_;obtain ⟨o34,h33,h⟩:=j4 h;refine jk (ι:={ s // o34=s }) hn (fun s=>[]) (fun s=>[(13,.box [.int a1,.int a2,.bool s.1.1,.sl 5 (List.map I6 s.1.2.1),.int a3.k,.int a3.n,.own 77,.own 99,.nilsl,.int (0:Int)] 288),(99,.row 2 (List.map eV s.1.2.2) 29)]) [(0,_),(13,_)] [(77,_),(1000,_),(1001,_),(1003,_)] (fun _ A8 _ _=>?_) ?_
 ·refine l8 hn ?_;refine l6 h33 (fun hb35 h33=>?_) (fun hb35 h33=>?_)
  ·refine kp [(0,_),(13,_),(14,_)] [(13,_),(14,_),(77,_),(82,_),(1000,_),(1001,_),(1003,_)] ?_;refine C9 hn (by kernel_rfl) ?_;obtain ⟨hg36,h33⟩:=C8 h33;refine mkM (enc:=eV) (x:=(⟨(0:Int),(0:Int)⟩:V)) hg36 aT ?_;refine A8 _ _ ?_;exact jn ⟨_,sj h33⟩ []
  refine q9 hn ?_;refine A8 _ _ ?_;exact jn ⟨_,sj h33⟩ [(99,82)]
 rintro ⟨⟨v30,v31,v32⟩,rfl⟩;refine A7 _ _ ?_;refine j5.fzAll 77 rfl ?_;refine kp [(0,_),(13,_)] [(13,_),(99,_),(1000,_),(1001,_),(1003,_)] ?_;refine C9 hn (by kernel_rfl) ?_;refine Or.inl ?_;refine Exists.intro [(7,(2,29)),(8,(2,29))] (Exists.intro (l9 (⟨a1,a2,v30,v31,a3,r25,v32,[],(0:Int)⟩:p8)) (Exists.intro [(99,.row 2 (List.map eV v32) 29)] (And.intro rfl (And.intro rfl (And.intro rfl (And.intro (by decide) (And.intro (by decide) (And.intro rfl (And.intro rfl ?_)))))))));obtain ⟨hg37,h⟩:=C8 h;refine b44 (l2:=[(⟨a1,a2,v30,v31,a3,r25,v32,[],(0:Int)⟩:p8)]) hg37 rfl rfl rfl rfl rfl (by decide) (by decide) ?_;refine y5.done ?_;obtain rfl:=oI h;exact ⟨[(4,110),(5,810)],_,fm⟩
end Go.Proofs.YtibjcppjfkamhaaGreatDoor
