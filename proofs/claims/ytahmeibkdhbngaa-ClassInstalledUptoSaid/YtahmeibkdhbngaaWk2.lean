/- Walks after the mirrors. Printed by mir.py. -/
import Derived.Test.YtahmeibkdhbngaaWk1
namespace Go.Proofs.Ytahmeibkdhbngaa
open Go.RowKit
set_option linter.unusedVariables false
/- class.Install -/
set_option maxRecDepth 100000 in
set_option maxHeartbeats 8000000 in
theorem aM4 (N:Nat) (a0:Wd) (a1:Int) (a2:Me) (r:(Wd×Int)) (h:U6 N a0 a1 a2=some r):Spec Try.prog 34 [] [.agg (eWd a0),.int a1,.agg (F3 a2)] (.tup [.agg (eWd r.1),.int r.2]) [] []:=by
 refine Spec.of D9 Try.func34 rfl Try.ntmps34 (by kernel_rfl) rfl rfl rfl fun Γ hn=>?_
 unfold U6 at h
 refine j5 hn ?_
 refine j4.seqQ fun _ A0 _ R0=>?_
 refine j4.seqQ fun _ A1 _ _=>?_
 obtain ⟨o3,h2,h⟩:=j6 h
 refine jk (ι:={ s // o3=s }) hn (fun s=>[(20,.bool s.1)]) (fun s=>[]) [(1,_),(3,_),(5,_),(6,_)] [(3,_),(5,_),(6,_)] (fun _ A2 _ _=>?_) ?_
 ·refine u6 hn ?_
  refine l5 h2 (fun hb4 h2=>?_) (fun hb4 h2=>?_)
  ·refine j3 hb4 ?_
   refine j3 hb4 ?_
   refine j3 hb4 ?_
   refine j3 hb4 ?_
   refine j3 hb4 ?_
   refine A2 _ _ ?_
   exact jn ⟨_,sj h2⟩ []
  refine d9 hb4 ?_
  refine d9 hb4 ?_
  refine d9 hb4 ?_
  refine y8 (fun _=>?_)
  refine d9 hb4 ?_
  refine d9 hb4 ?_
  refine A2 _ _ ?_
  exact jn ⟨_,sj h2⟩ []
 rintro ⟨v1,hv_⟩
 replace hv_:=hv_.symm
 subst hv_
 refine A1 _ _ ?_
 refine l9 hn ?_
 refine l5 h (fun hb6 h=>?_) (fun hb6 h=>?_)
 ·refine j5 hn ?_
  refine got hn ?_
  refine R0 _ _ ?_
  obtain rfl:=Option.some.inj h
  exact ⟨[],_,fm⟩
 refine q9 hn ?_
 refine A0 _ _ ?_
 refine j4.seqQ fun _ A3 _ _=>?_
 refine god hn (by kernel_rfl) ?_
 obtain ⟨x7,hx8,h⟩:=j6 h
 refine Q3 hx8 ?_
 obtain ⟨r9,hr10,h⟩:=j6 h
 show p9 Try.prog _ _ _ _
 refine cA (H5 N x7.methods a2.name (fun x0_ x1_=>J5 N x0_ x1_) (fun x0_ x1_ y_ hy_=>aP3 N x0_ x1_ y_ hy_) r9 hr10) ?_
 refine A3 _ _ ?_
 refine j4.seqQ fun _ A4 _ R4=>?_
 refine j4.seqQ fun _ A5 _ _=>?_
 obtain ⟨o13,h12,h⟩:=j6 h
 refine jk (ι:={ s // o13=s }) hn (fun s=>[(45,.bool s.1)]) (fun s=>[]) [(1,_),(3,_),(5,_),(6,_),(8,_),(9,_)] [(3,_),(5,_),(6,_)] (fun _ A6 _ _=>?_) ?_
 ·refine kp [(1,_),(3,_),(5,_),(6,_),(8,_),(9,_)] [(3,_),(5,_),(6,_)] ?_
  refine u6 hn ?_
  refine l5 h12 (fun hb14 h12=>?_) (fun hb14 h12=>?_)
  ·refine j3 hb14 ?_
   refine j3 hb14 ?_
   refine j3 hb14 ?_
   obtain ⟨x15,hx16,h12⟩:=j6 h12
   refine Q3 hx16 ?_
   refine j3 hb14 ?_
   refine j3 hb14 ?_
   refine j3 hb14 ?_
   refine y8 (fun _=>?_)
   refine j3 hb14 ?_
   refine j3 hb14 ?_
   refine A6 _ _ ?_
   exact jn ⟨_,sj h12⟩ []
  refine d9 hb14 ?_
  refine d9 hb14 ?_
  refine d9 hb14 ?_
  refine d9 hb14 ?_
  refine d9 hb14 ?_
  refine d9 hb14 ?_
  refine d9 hb14 ?_
  refine d9 hb14 ?_
  refine A6 _ _ ?_
  exact jn ⟨_,sj h12⟩ []
 rintro ⟨v11,hv_⟩
 replace hv_:=hv_.symm
 subst hv_
 refine A5 _ _ ?_
 refine l9 hn ?_
 refine l5 h (fun hb18 h=>?_) (fun hb18 h=>?_)
 ·refine j5 hn ?_
  refine got hn ?_
  refine R4 _ _ ?_
  obtain rfl:=Option.some.inj h
  exact ⟨[],_,fm⟩
 refine q9 hn ?_
 refine A4 _ _ ?_
 refine j5 hn ?_
 obtain ⟨r19,hr20,h⟩:=j6 h
 show p9 Try.prog _ _ _ _
 refine cA (((bB7 N a0 r19 hr20).sw 0 48).sw 1 748) ?_
 refine j5 hn ?_
 obtain ⟨x21,hx22,h⟩:=j6 h
 refine ixD hx22 rfl rfl ?_
 refine j4.seqQ fun _ A7 _ _=>?_
 refine j5 hn ?_
 obtain ⟨o25,h24,h⟩:=j6 h
 refine jk (ι:={ s // o25=s }) hn (fun s=>[]) (fun s=>[(48,.deep 4 67 [(3,(5,64))] (List.map Y8 s.1) [] 501),(501,.gone)]) [(5,_),(6,_),(8,_),(10,_),(11,_)] [(5,_),(6,_),(10,_)] (fun _ A8 _ _=>?_) ?_
 ·refine l9 hn ?_
  refine l5 h24 (fun hb26 h24=>?_) (fun hb26 h24=>?_)
  ·refine j4.gh (Gh.detach 48 501 502 a1.toNat 3 rfl rfl (atD (F6 hx22).2) rfl rfl rfl rfl rfl rfl rfl rfl) (fun _=>?_)
   refine kp [(5,_),(6,_),(8,_),(10,_),(11,_)] [(5,_),(6,_),(10,_),(48,_),(501,_),(502,_)] ?_
   refine u6 hn ?_
   refine bZ7 (F6 hx22).2 rfl rfl (by decide) rfl ?_
   refine Exists.intro (List.map F3 [(⟨ByteArray.empty,(0:Int),(0:Int),(0:Int),[]⟩:Me)]) (And.intro (by repeat (first|exact trivial|exact rfl|(refine And.intro ?_ ?_))) ?_)
   obtain ⟨r27,hr28,h24⟩:=j6 h24
   show p9 Try.prog _ _ _ _
   refine cA ((((aU8 N x21.methods r9.1 [(⟨ByteArray.empty,(0:Int),(0:Int),(0:Int),[]⟩:Me)] r27 hr28).sw 1000 501).sw 1032 62).sw 0 63) ?_
   refine b59 (F6 hx22).2 rfl rfl (by decide) ?_
   refine A8 _ _ ?_
   refine O7.gh (Gh.attach (l':=List.map Y8 (r19.classes.set a1.toNat (⟨x21.name,x21.super,x21.slots,r27⟩:Cl))) 48 63 503 a1.toNat 3 rfl rfl rfl (atD (F6 hx22).2) rfl rfl (b61 rfl) rfl rfl rfl rfl rfl rfl) (fun _=>?_)
   exact jn ⟨_,sj h24⟩ [(501,503)]
  refine q9 hn ?_
  refine A8 _ _ ?_
  exact jn ⟨_,sj h24⟩ [(501,748)]
 rintro ⟨v23,hv_⟩
 replace hv_:=hv_.symm
 subst hv_
 refine A7 _ _ ?_
 refine j4.seqQ fun _ A9 _ _=>?_
 obtain ⟨x29,hx30,h⟩:=j6 h
 refine j4.gh (Gh.detach 48 504 505 a1.toNat 3 rfl rfl (atD hx30) rfl rfl rfl rfl rfl rfl rfl rfl) (fun _=>?_)
 refine kp [(5,_),(6,_),(8,_),(10,_),(11,_)] [(5,_),(6,_),(10,_),(48,_),(504,_),(505,_)] ?_
 refine god hn (by kernel_rfl) ?_
 refine bZ7 hx30 rfl rfl (by decide) rfl ?_
 obtain ⟨r31,hr32,h⟩:=j6 h
 show p9 Try.prog _ _ _ _
 refine cA (U8 N a2 r31 hr32) ?_
 obtain ⟨x33,hx34,h⟩:=j6 h
 refine aH3 hx34 ?_
 refine ldM (F6 hx34).2 ?_
 refine Exists.intro (List.map F3 (x29.methods.set r9.1.toNat r31)) (And.intro (aY9 (F6 hx34).2 (by repeat (first|exact trivial|exact rfl|(refine And.intro ?_ ?_)))) ?_)
 refine A9 _ _ ?_
 refine j4.gh (Gh.attach (l':=List.map Y8 (v23.set a1.toNat (⟨x29.name,x29.super,x29.slots,(x29.methods.set r9.1.toNat r31)⟩:Cl))) 48 504 506 a1.toNat 3 rfl rfl rfl (atD hx30) rfl rfl (b61 rfl) rfl rfl rfl rfl rfl rfl) (fun _=>?_)
 refine kp [(6,_),(10,_)] [(6,_),(10,_),(48,_),(506,_)] ?_
 refine j5 hn ?_
 refine Or.inr ?_
 refine j5 hn ?_
 refine j4.fzAllD 48 rfl ?_
 refine got hn ?_
 obtain rfl:=Option.some.inj h
 exact ⟨[],_,fm⟩

/- qclaw2.alive -/
set_option maxRecDepth 100000 in
set_option maxHeartbeats 8000000 in
theorem a19 (N:Nat) (r:Bool) (h:aA9 N =some r):Spec Try.prog 38 [] [] (.bool r) [] []:=by
 refine Spec.of D9 Try.func38 rfl Try.ntmps38 (by kernel_rfl) rfl rfl rfl fun Γ hn=>?_
 unfold aA9 at h
 refine j5 hn ?_
 refine j5 hn ?_
 obtain ⟨r1,hr2,h⟩:=j6 h
 show p9 Try.prog _ _ _ _
 refine cA (bL5 N  r1 hr2) ?_
 obtain ⟨r3,hr4,h⟩:=j6 h
 show p9 Try.prog _ _ _ _
 refine cA (aT4 N r1 (⟨#[65]⟩:ByteArray) (0:Int) (2:Int) r3 hr4) ?_
 refine j5 hn ?_
 obtain ⟨r5,hr6,h⟩:=j6 h
 show p9 Try.prog _ _ _ _
 refine cA (aT4 N r3.1 (⟨#[66]⟩:ByteArray) r3.2.1 (1:Int) r5 hr6) ?_
 refine kp [(1,_),(2,_),(3,_),(4,_),(5,_)] [(1,_)] ?_
 refine j5 hn ?_
 obtain ⟨r7,hr8,h⟩:=j6 h
 show p9 Try.prog _ _ _ _
 refine cA (aM4 N r5.1 r3.2.1 (⟨(⟨#[109]⟩:ByteArray),(1:Int),(0:Int),(0:Int),[]⟩:Me) r7 hr8) ?_
 refine j5 hn ?_
 obtain ⟨r9,hr10,h⟩:=j6 h
 show p9 Try.prog _ _ _ _
 refine cA (aD5 N r7.1 r5.2.1 (⟨#[109]⟩:ByteArray) r9 hr10) ?_
 refine j4.seqQ fun _ A0 _ _=>?_
 obtain ⟨o13,h12,h⟩:=j6 h
 refine jk (ι:={ s // o13=s }) hn (fun s=>[(0,.bool s.1)]) (fun s=>[]) [] [] (fun _ A1 _ _=>?_) ?_
 ·refine kp [(1,_),(2,_),(3,_),(4,_),(5,_),(6,_),(7,_),(8,_)] [(1,_)] ?_
  refine u6 hn ?_
  refine l5 h12 (fun hb14 h12=>?_) (fun hb14 h12=>?_)
  ·refine j3 hb14 ?_
   refine j3 hb14 ?_
   refine l5 h12 (fun hb15 h12=>?_) (fun hb15 h12=>?_)
   ·refine j3 hb15 ?_
    refine j3 hb15 ?_
    refine l5 h12 (fun hb16 h12=>?_) (fun hb16 h12=>?_)
    ·refine j3 hb16 ?_
     refine j3 hb16 ?_
     refine l5 h12 (fun hb17 h12=>?_) (fun hb17 h12=>?_)
     ·refine j3 hb17 ?_
      refine j3 hb17 ?_
      refine l5 h12 (fun hb18 h12=>?_) (fun hb18 h12=>?_)
      ·refine j3 hb18 ?_
       refine j3 hb18 ?_
       refine l5 h12 (fun hb19 h12=>?_) (fun hb19 h12=>?_)
       ·refine j3 hb19 ?_
        refine j3 hb19 ?_
        refine l5 h12 (fun hb20 h12=>?_) (fun hb20 h12=>?_)
        ·refine j3 hb20 ?_
         refine j3 hb20 ?_
         obtain ⟨r21,hr22,h12⟩:=j6 h12
         show p9 Try.prog _ _ _ _
         refine cA (aP9 N r7.1 r5.2.1 r21 hr22) ?_
         refine j3 hb20 ?_
         refine j3 hb20 ?_
         refine l5 h12 (fun hb23 h12=>?_) (fun hb23 h12=>?_)
         ·refine j3 hb23 ?_
          refine j3 hb23 ?_
          refine j3 hb23 ?_
          refine l5 h12 (fun hb24 h12=>?_) (fun hb24 h12=>?_)
          ·obtain ⟨r25,hr26,h12⟩:=j6 h12
           show p9 Try.prog _ _ _ _
           refine cA (aT6 N (⟨#[43]⟩:ByteArray) r25 hr26) ?_
           refine j3 hb24 ?_
           refine l5 h12 (fun hb27 h12=>?_) (fun hb27 h12=>?_)
           ·refine j3 hb27 ?_
            obtain ⟨r28,hr29,h12⟩:=j6 h12
            show p9 Try.prog _ _ _ _
            refine cA (((bJ8 N r7.1 r28 hr29).sw 0 77).sw 1 777) ?_
            refine j3 hb27 ?_
            refine j3 hb27 ?_
            refine y8 (fun _=>?_)
            refine j3 hb27 ?_
            refine j3 hb27 ?_
            refine l5 h12 (fun hb31 h12=>?_) (fun hb31 h12=>?_)
            ·refine j3 hb31 ?_
             obtain ⟨r32,hr33,h12⟩:=j6 h12
             show p9 Try.prog _ _ _ _
             refine cA (U8 N (⟨ByteArray.empty,(3:Int),(0:Int),(0:Int),[]⟩:Me) r32 hr33) ?_
             refine j3 hb31 ?_
             refine j3 hb31 ?_
             refine j3 hb31 ?_
             refine A1 _ _ ?_
             exact jn ⟨_,sj h12⟩ []
            refine d9 hb31 ?_
            refine d9 hb31 ?_
            refine d9 hb31 ?_
            refine d9 hb31 ?_
            refine A1 _ _ ?_
            exact jn ⟨_,sj h12⟩ []
           refine d9 hb27 ?_
           refine d9 hb27 ?_
           refine d9 hb27 ?_
           refine d9 hb27 ?_
           refine d9 hb27 ?_
           refine A1 _ _ ?_
           exact jn ⟨_,sj h12⟩ []
          refine d9 hb24 ?_
          refine A1 _ _ ?_
          exact jn ⟨_,sj h12⟩ []
         refine d9 hb23 ?_
         refine d9 hb23 ?_
         refine d9 hb23 ?_
         refine A1 _ _ ?_
         exact jn ⟨_,sj h12⟩ []
        refine d9 hb20 ?_
        refine d9 hb20 ?_
        refine d9 hb20 ?_
        refine d9 hb20 ?_
        refine A1 _ _ ?_
        exact jn ⟨_,sj h12⟩ []
       refine d9 hb19 ?_
       refine d9 hb19 ?_
       refine A1 _ _ ?_
       exact jn ⟨_,sj h12⟩ []
      refine d9 hb18 ?_
      refine d9 hb18 ?_
      refine A1 _ _ ?_
      exact jn ⟨_,sj h12⟩ []
     refine d9 hb17 ?_
     refine d9 hb17 ?_
     refine A1 _ _ ?_
     exact jn ⟨_,sj h12⟩ []
    refine d9 hb16 ?_
    refine d9 hb16 ?_
    refine A1 _ _ ?_
    exact jn ⟨_,sj h12⟩ []
   refine d9 hb15 ?_
   refine d9 hb15 ?_
   refine A1 _ _ ?_
   exact jn ⟨_,sj h12⟩ []
  refine d9 hb14 ?_
  refine d9 hb14 ?_
  refine A1 _ _ ?_
  exact jn ⟨_,sj h12⟩ []
 rintro ⟨v11,hv_⟩
 replace hv_:=hv_.symm
 subst hv_
 refine A0 _ _ ?_
 refine got hn ?_
 obtain rfl:=Option.some.inj h
 exact ⟨[],_,fm⟩

/- qclaw2.ClassInstalled -/
set_option maxRecDepth 100000 in
set_option maxHeartbeats 8000000 in
theorem aM5 (N:Nat) (a0:Wd) (a1:Int) (a2:Me) (a3:Int) (a4:ByteArray) (r:Bool) (h:P6 N a0 a1 a2 a3 a4=some r):Spec Try.prog 9 [] [.agg (eWd a0),.int a1,.agg (F3 a2),.int a3,.str a4] (.bool r) [] []:=by
 refine Spec.of D9 Try.func9 rfl Try.ntmps9 (by kernel_rfl) rfl rfl rfl fun Γ hn=>?_
 unfold P6 at h
 refine j5 hn ?_
 refine j4.seqQ fun _ A0 _ R0=>?_
 refine j5 hn ?_
 obtain ⟨r1,hr2,h⟩:=j6 h
 show p9 Try.prog _ _ _ _
 refine cA (a19 N  r1 hr2) ?_
 refine l9 hn ?_
 refine l5 h (fun hb3 h=>?_) (fun hb3 h=>?_)
 ·refine j5 hn ?_
  refine got hn ?_
  refine R0 _ _ ?_
  obtain rfl:=Option.some.inj h
  exact ⟨[],_,fm⟩
 refine q9 hn ?_
 refine A0 _ _ ?_
 refine j4.seqQ fun _ A1 _ R1=>?_
 refine j5 hn ?_
 obtain ⟨r4,hr5,h⟩:=j6 h
 show p9 Try.prog _ _ _ _
 refine cA (bB1 N a0 r4 hr5) ?_
 refine l9 hn ?_
 refine l5 h (fun hb6 h=>?_) (fun hb6 h=>?_)
 ·refine j5 hn ?_
  refine got hn ?_
  refine R1 _ _ ?_
  obtain rfl:=Option.some.inj h
  exact ⟨[],_,fm⟩
 refine q9 hn ?_
 refine A1 _ _ ?_
 refine j5 hn ?_
 obtain ⟨r7,hr8,h⟩:=j6 h
 show p9 Try.prog _ _ _ _
 refine cA (aM4 N a0 a1 a2 r7 hr8) ?_
 refine j4.seqQ fun _ A2 _ R2=>?_
 refine kp [(1,_),(3,_),(4,_),(5,_),(7,_),(11,_),(12,_)] [(5,_),(7,_),(11,_)] ?_
 refine j5 hn ?_
 refine l9 hn ?_
 refine l5 h (fun hb9 h=>?_) (fun hb9 h=>?_)
 ·refine j5 hn ?_
  refine y8 (fun _=>?_)
  refine got hn ?_
  refine R2 _ _ ?_
  obtain rfl:=Option.some.inj h
  exact ⟨[],_,fm⟩
 refine q9 hn ?_
 refine A2 _ _ ?_
 refine j5 hn ?_
 obtain ⟨r11,hr12,h⟩:=j6 h
 show p9 Try.prog _ _ _ _
 refine cA (aD5 N r7.1 a1 a2.name r11 hr12) ?_
 refine j4.seqQ fun _ A3 _ R3=>?_
 refine j4.seqQ fun _ A4 _ _=>?_
 obtain ⟨o15,h14,h⟩:=j6 h
 refine jk (ι:={ s // o15=s }) hn (fun s=>[(78,.bool s.1)]) (fun s=>[]) [(3,_),(4,_),(5,_),(7,_),(11,_)] [(5,_),(7,_),(11,_)] (fun _ A5 _ _=>?_) ?_
 ·refine kp [(1,_),(3,_),(4,_),(5,_),(7,_),(11,_),(13,_),(14,_)] [(5,_),(7,_),(11,_)] ?_
  refine god hn (by kernel_rfl) ?_
  refine l5 h14 (fun hb16 h14=>?_) (fun hb16 h14=>?_)
  ·refine j3 hb16 ?_
   refine j3 hb16 ?_
   refine A5 _ _ ?_
   exact jn ⟨_,sj h14⟩ []
  refine d9 hb16 ?_
  refine d9 hb16 ?_
  refine l5 h14 (fun hb17 h14=>?_) (fun hb17 h14=>?_)
  ·refine j3 hb17 ?_
   refine j3 hb17 ?_
   refine j3 hb17 ?_
   refine j3 hb17 ?_
   refine j3 hb17 ?_
   refine j3 hb17 ?_
   refine j3 hb17 ?_
   refine j3 hb17 ?_
   refine j3 hb17 ?_
   refine A5 _ _ ?_
   exact jn ⟨_,sj h14⟩ []
  refine d9 hb17 ?_
  refine d9 hb17 ?_
  refine d9 hb17 ?_
  refine d9 hb17 ?_
  obtain ⟨x18,hx19,h14⟩:=j6 h14
  refine Q3 hx19 ?_
  refine d9 hb17 ?_
  refine d9 hb17 ?_
  refine d9 hb17 ?_
  refine y8 (fun _=>?_)
  refine d9 hb17 ?_
  refine d9 hb17 ?_
  refine l5 h14 (fun hb21 h14=>?_) (fun hb21 h14=>?_)
  ·refine j3 hb21 ?_
   refine j3 hb21 ?_
   refine j3 hb21 ?_
   refine j3 hb21 ?_
   refine j3 hb21 ?_
   refine j3 hb21 ?_
   refine j3 hb21 ?_
   refine j3 hb21 ?_
   refine j3 hb21 ?_
   refine j3 hb21 ?_
   refine j3 hb21 ?_
   refine j3 hb21 ?_
   refine j3 hb21 ?_
   refine j3 hb21 ?_
   refine A5 _ _ ?_
   exact jn ⟨_,sj h14⟩ []
  refine d9 hb21 ?_
  refine d9 hb21 ?_
  refine d9 hb21 ?_
  obtain ⟨x22,hx23,h14⟩:=j6 h14
  refine Q3 hx23 ?_
  refine d9 hb21 ?_
  refine d9 hb21 ?_
  refine d9 hb21 ?_
  refine d9 hb21 ?_
  obtain ⟨x24,hx25,h14⟩:=j6 h14
  refine Q3 hx25 ?_
  refine d9 hb21 ?_
  refine d9 hb21 ?_
  refine d9 hb21 ?_
  refine d9 hb21 ?_
  refine d9 hb21 ?_
  obtain ⟨r26,hr27,h14⟩:=j6 h14
  show p9 Try.prog _ _ _ _
  refine cA (aW3 N x24.code a2.code r26 hr27) ?_
  refine d9 hb21 ?_
  refine d9 hb21 ?_
  refine A5 _ _ ?_
  exact jn ⟨_,sj h14⟩ []
 rintro ⟨v13,hv_⟩
 replace hv_:=hv_.symm
 subst hv_
 refine A4 _ _ ?_
 refine l9 hn ?_
 refine l5 h (fun hb28 h=>?_) (fun hb28 h=>?_)
 ·refine j5 hn ?_
  refine got hn ?_
  refine R3 _ _ ?_
  obtain rfl:=Option.some.inj h
  exact ⟨[],_,fm⟩
 refine q9 hn ?_
 refine A3 _ _ ?_
 refine j5 hn ?_
 obtain ⟨r29,hr30,h⟩:=j6 h
 show p9 Try.prog _ _ _ _
 refine cA (aD5 N a0 a3 a4 r29 hr30) ?_
 refine j5 hn ?_
 obtain ⟨r31,hr32,h⟩:=j6 h
 show p9 Try.prog _ _ _ _
 refine cA (aD5 N r7.1 a3 a4 r31 hr32) ?_
 refine j4.seqQ fun _ A6 _ R6=>?_
 refine j4.seqQ fun _ A7 _ _=>?_
 obtain ⟨o35,h34,h⟩:=j6 h
 refine jk (ι:={ s // o35=s }) hn (fun s=>[(100,.bool s.1)]) (fun s=>[]) [(4,_),(7,_),(11,_),(15,_),(17,_),(18,_)] [(7,_),(11,_)] (fun _ A8 _ _=>?_) ?_
 ·refine kp [(4,_),(7,_),(11,_),(15,_),(16,_),(17,_),(18,_)] [(7,_),(11,_)] ?_
  refine u6 hn ?_
  refine l5 h34 (fun hb36 h34=>?_) (fun hb36 h34=>?_)
  ·refine j3 hb36 ?_
   refine j3 hb36 ?_
   refine A8 _ _ ?_
   exact jn ⟨_,sj h34⟩ []
  refine d9 hb36 ?_
  refine d9 hb36 ?_
  refine A8 _ _ ?_
  exact jn ⟨_,sj h34⟩ []
 rintro ⟨v33,hv_⟩
 replace hv_:=hv_.symm
 subst hv_
 refine A7 _ _ ?_
 refine l9 hn ?_
 refine l5 h (fun hb37 h=>?_) (fun hb37 h=>?_)
 ·refine j4.seqQ fun _ A9 _ _=>?_
  obtain ⟨o40,h39,h⟩:=j6 h
  refine jk (ι:={ s // o40=s }) hn (fun s=>[(10,.bool s.1)]) (fun s=>[]) [] [] (fun _ A10 _ _=>?_) ?_
  ·refine u6 hn ?_
   refine l5 h39 (fun hb41 h39=>?_) (fun hb41 h39=>?_)
   ·refine j3 hb41 ?_
    refine j3 hb41 ?_
    refine A10 _ _ ?_
    exact jn ⟨_,sj h39⟩ []
   refine d9 hb41 ?_
   refine d9 hb41 ?_
   refine A10 _ _ ?_
   exact jn ⟨_,sj h39⟩ []
  rintro ⟨v38,hv_⟩
  replace hv_:=hv_.symm
  subst hv_
  refine A9 _ _ ?_
  refine got hn ?_
  refine R6 _ _ ?_
  obtain rfl:=Option.some.inj h
  exact ⟨[],_,fm⟩
 refine q9 hn ?_
 refine A6 _ _ ?_
 refine j4.seqQ fun _ A11 _ _=>?_
 obtain ⟨o44,h43,h⟩:=j6 h
 refine jk (ι:={ s // o44=s }) hn (fun s=>[(10,.bool s.1)]) (fun s=>[]) [] [] (fun _ A12 _ _=>?_) ?_
 ·refine u6 hn ?_
  refine l5 h43 (fun hb45 h43=>?_) (fun hb45 h43=>?_)
  ·refine j3 hb45 ?_
   refine j3 hb45 ?_
   refine l5 h43 (fun hb46 h43=>?_) (fun hb46 h43=>?_)
   ·refine j3 hb46 ?_
    refine j3 hb46 ?_
    refine j3 hb46 ?_
    refine j3 hb46 ?_
    obtain ⟨x47,hx48,h43⟩:=j6 h43
    refine Q3 hx48 ?_
    refine j3 hb46 ?_
    refine j3 hb46 ?_
    refine j3 hb46 ?_
    refine y8 (fun _=>?_)
    refine j3 hb46 ?_
    refine j3 hb46 ?_
    refine l5 h43 (fun hb50 h43=>?_) (fun hb50 h43=>?_)
    ·refine j3 hb50 ?_
     refine j3 hb50 ?_
     refine j3 hb50 ?_
     obtain ⟨x51,hx52,h43⟩:=j6 h43
     refine Q3 hx52 ?_
     refine j3 hb50 ?_
     refine j3 hb50 ?_
     refine j3 hb50 ?_
     refine j3 hb50 ?_
     obtain ⟨x53,hx54,h43⟩:=j6 h43
     refine Q3 hx54 ?_
     refine j3 hb50 ?_
     refine j3 hb50 ?_
     refine j3 hb50 ?_
     refine j3 hb50 ?_
     refine j3 hb50 ?_
     refine A12 _ _ ?_
     exact jn ⟨_,sj h43⟩ []
    refine d9 hb50 ?_
    refine d9 hb50 ?_
    refine d9 hb50 ?_
    refine d9 hb50 ?_
    refine d9 hb50 ?_
    refine d9 hb50 ?_
    refine d9 hb50 ?_
    refine d9 hb50 ?_
    refine d9 hb50 ?_
    refine d9 hb50 ?_
    refine d9 hb50 ?_
    refine d9 hb50 ?_
    refine A12 _ _ ?_
    exact jn ⟨_,sj h43⟩ []
   refine d9 hb46 ?_
   refine d9 hb46 ?_
   refine d9 hb46 ?_
   refine d9 hb46 ?_
   refine d9 hb46 ?_
   refine d9 hb46 ?_
   refine d9 hb46 ?_
   refine d9 hb46 ?_
   refine d9 hb46 ?_
   refine A12 _ _ ?_
   exact jn ⟨_,sj h43⟩ []
  refine d9 hb45 ?_
  refine d9 hb45 ?_
  refine A12 _ _ ?_
  exact jn ⟨_,sj h43⟩ []
 rintro ⟨v42,hv_⟩
 replace hv_:=hv_.symm
 subst hv_
 refine A11 _ _ ?_
 refine got hn ?_
 obtain rfl:=Option.some.inj h
 exact ⟨[],_,fm⟩
end Go.Proofs.Ytahmeibkdhbngaa
