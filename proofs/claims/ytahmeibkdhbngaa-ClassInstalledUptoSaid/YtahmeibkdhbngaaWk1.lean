/- Walks after the mirrors. Printed by mir.py. -/
import Derived.Test.YtahmeibkdhbngaaMir
import Derived.Test.YtahmeibkdhbngaaYnew
import Derived.Test.YtahmeibkdhbngaaYins
import Derived.Test.YtahmeibkdhbngaaYcnew
namespace Go.Proofs.Ytahmeibkdhbngaa
open Go.RowKit
set_option linter.unusedVariables false
/- slices.BinarySearchFunc[[]api.Method,api.Method,string] -/
set_option maxRecDepth 100000 in
set_option maxHeartbeats 8000000 in
theorem H5 (N:Nat) (a0:(List Me)) (a1:ByteArray) (g2:Me→ByteArray→Option Int) {K2:Nat} (hg2:∀x0_ x1_ y_,g2 x0_ x1_=some y_→Spec Try.prog K2 [] [.agg (F3 x0_),.str x1_] (.int y_) [] []) (r:(Int×Bool)) (h:p8 N a0 a1 g2=some r):Spec Try.prog 67 [] [.sl 5 (List.map F3 a0),.str a1,.fn K2 []] (.tup [.int r.1,.bool r.2]) [] []:=by
 refine Spec.of D9 Try.func67 rfl Try.ntmps67 (by kernel_rfl) rfl rfl rfl fun Γ hn=>?_
 unfold p8 at h
 refine j5 hn ?_
 refine j5 hn ?_
 refine y8 (fun _=>?_)
 refine j5 hn ?_
 refine j4.seqQ fun _ A0 _ _=>?_
 obtain ⟨o8,h9,h⟩:=j6 h
 refine jk (ι:={ s // o8=s }) hn (fun s=>[(9,.int s.1)]) (fun s=>[]) [(0,_),(1,_),(2,_),(8,_)] [] (fun _ A1 _ _=>?_) ?_
 ·refine j4.blkQ fun _ _ E2 _ _=>?_
  refine lq (ι:={ q:(Nat×Int×Int) // l8 N a0 a1 g2 q.1 q.2.1 q.2.2=some o8 }) hn (fun q=>[(9,.int q.1.2.1),(10,.int q.1.2.2)]) (fun q=>[]) (fun q=>q.1.1) [(0,_),(1,_),(2,_),(8,_)] [] ⟨(N,(0:Int),(a0.length:Int)),h9⟩ [] ?_
  rintro ⟨⟨n_,v3,v4⟩,h9⟩ _ A3 X3 _
  rcases n_ with _|n12
  ·rw [l8.eq_1] at h9
   cases h9
  ·replace h9:=(l8.eq_2 _ _ _ _ _ _ _).symm.trans h9
   refine j4.seqQ fun _ A4 X4 _=>?_
   refine j5 hn ?_
   refine l9 hn ?_
   refine l5 h9 (fun hb13 h9=>?_) (fun hb13 h9=>?_)
   ·refine q9 hn ?_
    refine A4 _ _ ?_
    obtain ⟨o17,h16,h9⟩:=j6 h9
    refine jk (ι:={ s // o17=s }) hn (fun s=>[(9,.int s.1.1),(10,.int s.1.2)]) (fun s=>[]) [(0,_),(1,_),(2,_),(8,_)] [] (fun _ A5 _ _=>?_) ?_
    ·refine j4.blkQ fun _ A6 _ _ _=>?_
     refine j5 hn ?_
     refine Or.inr ?_
     obtain ⟨hg18,h16⟩:=O1 h16
     refine bU5 hg18 ?_
     refine And.intro rfl ?_
     refine And.intro rfl ?_
     obtain ⟨hg19,h16⟩:=O1 h16
     refine bU5 hg19 ?_
     refine j5 hn ?_
     obtain ⟨x20,hx21,h16⟩:=j6 h16
     refine Q3 hx21 ?_
     obtain ⟨r22,hr23,h16⟩:=j6 h16
     show p9 Try.prog _ _ _ _
     refine cA (hg2 _ _ _ hr23) ?_
     obtain ⟨o27,h26,h16⟩:=j6 h16
     refine jk (ι:={ s // o27=s }) hn (fun s=>[(9,.int s.1.1),(10,.int s.1.2)]) (fun s=>[]) [(0,_),(1,_),(2,_),(8,_)] [] (fun _ A7 _ _=>?_) ?_
     ·refine l9 hn ?_
      refine l5 h26 (fun hb28 h26=>?_) (fun hb28 h26=>?_)
      ·refine kp [(0,_),(1,_),(2,_),(8,_),(10,_),(11,_)] [] ?_
       refine u6 hn ?_
       refine Or.inr ?_
       refine A7 _ _ ?_
       exact jn ⟨_,sj h26⟩ []
      refine kp [(0,_),(1,_),(2,_),(8,_),(9,_),(11,_)] [] ?_
      refine u6 hn ?_
      refine A7 _ _ ?_
      exact jn ⟨_,sj h26⟩ []
     rintro ⟨⟨v24,v25⟩,rfl⟩
     refine A6 _ _ ?_
     refine A5 _ _ ?_
     exact jn ⟨_,sj h16⟩ []
    rintro ⟨⟨v14,v15⟩,rfl⟩
    refine A3 _ _ ?_
    exact jn ⟨(n12,v14,v15),h9⟩ [] (by show n12 < n12+1; omega)
   refine H8 hn ?_
   refine X4 _ _ _ ?_
   refine X3 _ _ _ ?_
   refine E2 _ _ ?_
   refine A1 _ _ ?_
   exact jn ⟨_,sj h9⟩ []
 rintro ⟨v7,hv_⟩
 replace hv_:=hv_.symm
 subst hv_
 refine A0 _ _ ?_
 refine j4.seqQ fun _ A8 _ _=>?_
 obtain ⟨o31,h30,h⟩:=j6 h
 refine jk (ι:={ s // o31=s }) hn (fun s=>[(6,.int v7),(7,.bool s.1)]) (fun s=>[]) [] [] (fun _ A9 _ _=>?_) ?_
 ·refine u6 hn ?_
  refine l5 h30 (fun hb32 h30=>?_) (fun hb32 h30=>?_)
  ·refine j3 hb32 ?_
   refine j3 hb32 ?_
   refine j3 hb32 ?_
   obtain ⟨x33,hx34,h30⟩:=j6 h30
   refine Q3 hx34 ?_
   refine j3 hb32 ?_
   refine j3 hb32 ?_
   refine j3 hb32 ?_
   obtain ⟨r35,hr36,h30⟩:=j6 h30
   show p9 Try.prog _ _ _ _
   refine cA (hg2 _ _ _ hr36) ?_
   refine j3 hb32 ?_
   refine j3 hb32 ?_
   refine A9 _ _ ?_
   exact jn ⟨_,sj h30⟩ []
  refine d9 hb32 ?_
  refine d9 hb32 ?_
  refine d9 hb32 ?_
  refine d9 hb32 ?_
  refine d9 hb32 ?_
  refine d9 hb32 ?_
  refine d9 hb32 ?_
  refine d9 hb32 ?_
  refine A9 _ _ ?_
  exact jn ⟨_,sj h30⟩ []
 rintro ⟨v29,hv_⟩
 replace hv_:=hv_.symm
 subst hv_
 refine A8 _ _ ?_
 refine got hn ?_
 obtain rfl:=Option.some.inj h
 exact ⟨[],_,fm⟩

/- cmp.isNaN[string] -/
set_option maxRecDepth 100000 in
set_option maxHeartbeats 8000000 in
theorem aG2 (N:Nat) (a0:ByteArray) (r:Bool) (h:cmp_isNaN_string N a0=some r):Spec Try.prog 120 [] [.str a0] (.bool r) [] []:=by
 refine Spec.of D9 Try.func120 rfl Try.ntmps120 (by kernel_rfl) rfl rfl rfl fun Γ hn=>?_
 unfold cmp_isNaN_string at h
 refine j5 hn ?_
 refine j5 hn ?_
 refine got hn ?_
 obtain rfl:=Option.some.inj h
 exact ⟨[],_,fm⟩

/- cmp.Compare[string] -/
set_option maxRecDepth 100000 in
set_option maxHeartbeats 8000000 in
theorem aP1 (N:Nat) (a0:ByteArray) (a1:ByteArray) (r:Int) (h:V4 N a0 a1=some r):Spec Try.prog 91 [] [.str a0,.str a1] (.int r) [] []:=by
 refine Spec.of D9 Try.func91 rfl Try.ntmps91 (by kernel_rfl) rfl rfl rfl fun Γ hn=>?_
 unfold V4 at h
 refine j5 hn ?_
 refine j5 hn ?_
 obtain ⟨r1,hr2,h⟩:=j6 h
 show p9 Try.prog _ _ _ _
 refine cA (aG2 N a0 r1 hr2) ?_
 refine j5 hn ?_
 obtain ⟨r3,hr4,h⟩:=j6 h
 show p9 Try.prog _ _ _ _
 refine cA (aG2 N a1 r3 hr4) ?_
 refine j4.seqQ fun _ A0 _ R0=>?_
 refine j5 hn ?_
 refine l9 hn ?_
 refine l5 h (fun hb5 h=>?_) (fun hb5 h=>?_)
 ·refine j4.seqQ fun _ A1 _ R1=>?_
  refine j5 hn ?_
  refine l9 hn ?_
  refine l5 h (fun hb6 h=>?_) (fun hb6 h=>?_)
  ·refine j5 hn ?_
   refine got hn ?_
   refine R1 _ _ ?_
   refine R0 _ _ ?_
   obtain rfl:=Option.some.inj h
   exact ⟨[],_,fm⟩
  refine q9 hn ?_
  refine A1 _ _ ?_
  refine j5 hn ?_
  refine got hn ?_
  refine R0 _ _ ?_
  obtain rfl:=Option.some.inj h
  exact ⟨[],_,fm⟩
 refine q9 hn ?_
 refine A0 _ _ ?_
 refine j4.seqQ fun _ A2 _ R2=>?_
 refine j5 hn ?_
 refine l9 hn ?_
 refine l5 h (fun hb7 h=>?_) (fun hb7 h=>?_)
 ·refine j5 hn ?_
  refine got hn ?_
  refine R2 _ _ ?_
  obtain rfl:=Option.some.inj h
  exact ⟨[],_,fm⟩
 refine q9 hn ?_
 refine A2 _ _ ?_
 refine j4.seqQ fun _ A3 _ R3=>?_
 refine j5 hn ?_
 refine l9 hn ?_
 refine l5 h (fun hb8 h=>?_) (fun hb8 h=>?_)
 ·refine j5 hn ?_
  refine got hn ?_
  refine R3 _ _ ?_
  obtain rfl:=Option.some.inj h
  exact ⟨[],_,fm⟩
 refine q9 hn ?_
 refine A3 _ _ ?_
 refine j4.seqQ fun _ A4 _ R4=>?_
 refine j5 hn ?_
 refine l9 hn ?_
 refine l5 h (fun hb9 h=>?_) (fun hb9 h=>?_)
 ·refine kp [] [] ?_
  refine j5 hn ?_
  refine got hn ?_
  refine R4 _ _ ?_
  obtain rfl:=Option.some.inj h
  exact ⟨[],_,fm⟩
 refine q9 hn ?_
 refine A4 _ _ ?_
 refine kp [] [] ?_
 refine j5 hn ?_
 refine got hn ?_
 obtain rfl:=Option.some.inj h
 exact ⟨[],_,fm⟩

/- class.order -/
set_option maxRecDepth 100000 in
set_option maxHeartbeats 8000000 in
theorem aP3 (N:Nat) (a0:Me) (a1:ByteArray) (r:Int) (h:J5 N a0 a1=some r):Spec Try.prog 64 [] [.agg (F3 a0),.str a1] (.int r) [] []:=by
 refine Spec.of D9 Try.func64 rfl Try.ntmps64 (by kernel_rfl) rfl rfl rfl fun Γ hn=>?_
 unfold J5 at h
 refine j5 hn ?_
 refine j5 hn ?_
 obtain ⟨r1,hr2,h⟩:=j6 h
 show p9 Try.prog _ _ _ _
 refine cA (aP1 N a0.name a1 r1 hr2) ?_
 refine got hn ?_
 obtain rfl:=Option.some.inj h
 exact ⟨[],_,fm⟩

/- class.Find -/
set_option maxRecDepth 100000 in
set_option maxHeartbeats 8000000 in
theorem aD5 (N:Nat) (a0:Wd) (a1:Int) (a2:ByteArray) (r:(Int×Int)) (h:V3 N a0 a1 a2=some r):Spec Try.prog 30 [] [.agg (eWd a0),.int a1,.str a2] (.tup [.int r.1,.int r.2]) [] []:=by
 refine Spec.of D9 Try.func30 rfl Try.ntmps30 (by kernel_rfl) rfl rfl rfl fun Γ hn=>?_
 unfold V3 at h
 refine j5 hn ?_
 refine j4.seqQ fun _ A0 _ R0=>?_
 refine j5 hn ?_
 obtain ⟨o6,h7,h⟩:=j6 h
 refine jk (ι:={ s // o6=G8.next s }) hn (fun s=>[]) (fun s=>[]) [] [] (fun _ A1 _ R1=>?_) ?_
 ·refine j4.blkQ fun _ _ E2 _ R2=>?_
  refine lq (ι:={ q:(Nat×Int×Int) // O4 N a0 a2 q.1 q.2.1 q.2.2=some o6 }) hn (fun q=>[(1,.int q.1.2.1),(8,.int q.1.2.2)]) (fun q=>[]) (fun q=>q.1.1) [(2,_),(3,_)] [(3,_)] ⟨(N,a1,(0:Int)),h7⟩ [] ?_
  rintro ⟨⟨n_,v2,v3⟩,h7⟩ _ A3 X3 R3
  rcases n_ with _|n10
  ·rw [O4.eq_1] at h7
   cases h7
  ·replace h7:=(O4.eq_2 _ _ _ _ _ _).symm.trans h7
   refine j4.seqQ fun _ A4 X4 _=>?_
   refine j4.seqQ fun _ A5 _ _=>?_
   obtain ⟨o13,h12,h7⟩:=j6 h7
   refine jk (ι:={ s // o13=s }) hn (fun s=>[(26,.bool s.1)]) (fun s=>[]) [(1,_),(2,_),(3,_),(8,_)] [(3,_)] (fun _ A6 _ _=>?_) ?_
   ·refine u6 hn ?_
    refine l5 h12 (fun hb14 h12=>?_) (fun hb14 h12=>?_)
    ·refine j3 hb14 ?_
     refine j3 hb14 ?_
     refine j3 hb14 ?_
     refine y8 (fun _=>?_)
     refine j3 hb14 ?_
     refine j3 hb14 ?_
     refine l5 h12 (fun hb16 h12=>?_) (fun hb16 h12=>?_)
     ·refine j3 hb16 ?_
      refine j3 hb16 ?_
      refine j3 hb16 ?_
      refine y8 (fun _=>?_)
      refine j3 hb16 ?_
      refine j3 hb16 ?_
      refine A6 _ _ ?_
      exact jn ⟨_,sj h12⟩ []
     refine d9 hb16 ?_
     refine d9 hb16 ?_
     refine d9 hb16 ?_
     refine d9 hb16 ?_
     refine d9 hb16 ?_
     refine A6 _ _ ?_
     exact jn ⟨_,sj h12⟩ []
    refine d9 hb14 ?_
    refine d9 hb14 ?_
    refine d9 hb14 ?_
    refine d9 hb14 ?_
    refine d9 hb14 ?_
    refine A6 _ _ ?_
    exact jn ⟨_,sj h12⟩ []
   rintro ⟨v11,hv_⟩
   replace hv_:=hv_.symm
   subst hv_
   refine A5 _ _ ?_
   refine l9 hn ?_
   refine l5 h7 (fun hb18 h7=>?_) (fun hb18 h7=>?_)
   ·refine q9 hn ?_
    refine A4 _ _ ?_
    refine j4.seqQ fun _ A7 _ R7=>?_
    refine j4.blkQ fun _ A8 _ _ R8=>?_
    refine j4.seqQ fun _ A9 _ R9=>?_
    refine j5 hn ?_
    obtain ⟨x19,hx20,h7⟩:=j6 h7
    refine Q3 hx20 ?_
    obtain ⟨r21,hr22,h7⟩:=j6 h7
    show p9 Try.prog _ _ _ _
    refine cA (H5 N x19.methods a2 (fun x0_ x1_=>J5 N x0_ x1_) (fun x0_ x1_ y_ hy_=>aP3 N x0_ x1_ y_ hy_) r21 hr22) ?_
    refine kp [(1,_),(2,_),(3,_),(8,_),(9,_),(10,_)] [(3,_)] ?_
    refine j5 hn ?_
    refine l9 hn ?_
    refine l5 h7 (fun hb23 h7=>?_) (fun hb23 h7=>?_)
    ·refine j5 hn ?_
     refine got hn ?_
     refine R9 _ _ ?_
     refine R8 _ _ ?_
     refine R7 _ _ ?_
     refine R3 _ _ ?_
     refine R2 _ _ ?_
     refine R1 _ _ ?_
     refine R0 _ _ ?_
     obtain rfl:=Option.some.inj h7
     obtain rfl:=Option.some.inj h
     exact ⟨[],_,fm⟩
    refine q9 hn ?_
    refine A9 _ _ ?_
    refine u6 hn ?_
    obtain ⟨x24,hx25,h7⟩:=j6 h7
    refine Q3 hx25 ?_
    refine A8 _ _ ?_
    refine A7 _ _ ?_
    refine u6 hn ?_
    refine Or.inr ?_
    refine A3 _ _ ?_
    exact jn ⟨(n10,x24.super,(wr (v3+(1:Int)))),h7⟩ [] (by show n10 < n10+1; omega)
   refine H8 hn ?_
   refine X4 _ _ _ ?_
   refine X3 _ _ _ ?_
   refine E2 _ _ ?_
   refine A1 _ _ ?_
   exact jn ⟨_,sj h7⟩ []
 rintro ⟨⟨⟩,rfl⟩
 refine A0 _ _ ?_
 refine j5 hn ?_
 refine got hn ?_
 obtain rfl:=Option.some.inj h
 exact ⟨[],_,fm⟩

/- qcref1.Name -/
set_option maxRecDepth 100000 in
set_option maxHeartbeats 8000000 in
theorem aH5 (N:Nat) (a0:ByteArray) (r:Bool) (h:V8 N a0=some r):Spec Try.prog 27 [] [.str a0] (.bool r) [] []:=by
 refine Spec.of D9 Try.func27 rfl Try.ntmps27 (by kernel_rfl) rfl rfl rfl fun Γ hn=>?_
 unfold V8 at h
 refine j5 hn ?_
 refine j4.seqQ fun _ A0 _ R0=>?_
 refine j5 hn ?_
 intro _
 refine j4.rng 5 rfl (fun hrn=>?_)
 obtain ⟨o3,h4,h⟩:=j6 h
 refine jk (ι:={ s // o3=G8.next s }) hn (fun s=>[]) (fun s=>[]) [(0,_)] [] (fun _ A1 _ R1=>?_) ?_
 ·refine j4.blkQ fun _ _ E2 _ R2=>?_
  refine lq (ι:={ q:(Nat×Nat) // q.1=((a0.size:Int) - (q.2:Int)).toNat∧O6 N a0 q.1 q.2=some o3 }) hn (fun q=>[(6,.int (q.1.2:Int))]) (fun q=>[]) (fun q=>q.1.1) [(0,_),(5,_)] [] ⟨(((a0.size:Int) - ((0:Nat):Int)).toNat,0),rfl,h4⟩ [] ?_
  rintro ⟨⟨n_,k2⟩,hd6,h4⟩ _ A3 X3 R3
  replace hd6:n_=((a0.size:Int) - (k2:Int)).toNat:=hd6
  rcases n_ with _|n7
  ·have hlt10:=bO2 hd6
   replace h4:=(O6.eq_1 _ _ _).symm.trans h4
   refine j5 hn ?_
   refine j4.seqQ fun _ _ X4 _=>?_
   refine l9 hn ?_
   refine d9 hlt10 ?_
   refine H8 hn ?_
   refine X4 _ _ _ ?_
   refine X3 _ _ _ ?_
   refine E2 _ _ ?_
   refine A1 _ _ ?_
   exact jn ⟨_,sj h4⟩ []
  ·obtain ⟨hd2,hlt10⟩:=bH7 hd6
   replace h4:=(O6.eq_2 _ _ _ _).symm.trans h4
   refine j5 hn ?_
   refine j4.seqQ fun _ A5 _ _=>?_
   refine l9 hn ?_
   refine j3 hlt10 ?_
   refine q9 hn ?_
   refine A5 _ _ ?_
   refine j4.seqQ fun _ A6 _ R6=>?_
   refine j4.blkQ fun _ A7 _ _ R7=>?_
   refine j5 hn ?_
   refine j4.seqQ fun _ A8 _ _=>?_
   obtain ⟨o13,h12,h4⟩:=j6 h4
   refine jk (ι:={ s // o13=s }) hn (fun s=>[(18,.bool s.1)]) (fun s=>[]) [(0,_),(5,_),(6,_)] [] (fun _ A9 _ _=>?_) ?_
   ·refine u6 hn ?_
    obtain ⟨u14,hx15,h12⟩:=j6 h12
    refine byM hx15 ?_
    refine And.intro rfl ?_
    refine l5 h12 (fun hb16 h12=>?_) (fun hb16 h12=>?_)
    ·refine j3 hb16 ?_
     refine j3 hb16 ?_
     refine j3 hb16 ?_
     refine j3 hb16 ?_
     refine A9 _ _ ?_
     exact jn ⟨_,sj h12⟩ []
    refine d9 hb16 ?_
    refine d9 hb16 ?_
    obtain ⟨u17,hx18,h12⟩:=j6 h12
    refine byM hx18 ?_
    refine d9 hb16 ?_
    refine And.intro rfl ?_
    refine d9 hb16 ?_
    refine A9 _ _ ?_
    exact jn ⟨_,sj h12⟩ []
   rintro ⟨v11,hv_⟩
   replace hv_:=hv_.symm
   subst hv_
   refine A8 _ _ ?_
   refine l9 hn ?_
   refine l5 h4 (fun hb19 h4=>?_) (fun hb19 h4=>?_)
   ·refine j5 hn ?_
    refine got hn ?_
    refine R7 _ _ ?_
    refine R6 _ _ ?_
    refine R3 _ _ ?_
    refine R2 _ _ ?_
    refine R1 _ _ ?_
    refine R0 _ _ ?_
    obtain rfl:=Option.some.inj h4
    obtain rfl:=Option.some.inj h
    exact ⟨[],_,fm⟩
   refine q9 hn ?_
   refine A7 _ _ ?_
   refine A6 _ _ ?_
   refine u6 hn ?_
   refine Or.inl (And.intro (bY3 hlt10 hrn) ?_)
   refine A3 _ _ ?_
   exact jn ⟨(n7,k2+1),hd2,h4⟩ [] (by show n7 < n7+1; omega)
 rintro ⟨⟨⟩,rfl⟩
 refine A0 _ _ ?_
 refine j4.seqQ fun _ A10 _ _=>?_
 obtain ⟨o22,h21,h⟩:=j6 h
 refine jk (ι:={ s // o22=s }) hn (fun s=>[(2,.bool s.1)]) (fun s=>[]) [] [] (fun _ A11 _ _=>?_) ?_
 ·refine u6 hn ?_
  intro _
  refine l5 h21 (fun hb24 h21=>?_) (fun hb24 h21=>?_)
  ·refine j3 hb24 ?_
   intro _
   refine j3 hb24 ?_
   refine j3 hb24 ?_
   refine A11 _ _ ?_
   exact jn ⟨_,sj h21⟩ []
  refine d9 hb24 ?_
  refine d9 hb24 ?_
  refine d9 hb24 ?_
  refine A11 _ _ ?_
  exact jn ⟨_,sj h21⟩ []
 rintro ⟨v20,hv_⟩
 replace hv_:=hv_.symm
 subst hv_
 refine A10 _ _ ?_
 refine got hn ?_
 obtain rfl:=Option.some.inj h
 exact ⟨[],_,fm⟩

/- qcref1.Ups -/
set_option maxRecDepth 100000 in
set_option maxHeartbeats 8000000 in
theorem bG7 (N:Nat) (a0:Wd) (a1:Int) (r:(List Int)) (h:aE7 N a0 a1=some r):Spec Try.prog 66 [] [.agg (eWd a0),.int a1] (.own 0) [(0,.row 1 (List.map J8 r) 3)] [0]:=by
 refine Spec.of D9 Try.func66 rfl Try.ntmps66 (by kernel_rfl) rfl rfl rfl fun Γ hn=>?_
 unfold aE7 at h
 refine j5 hn ?_
 refine j5 hn ?_
 refine j4.seqQ fun _ A0 _ _=>?_
 refine j4.nilrow 5 205 1 3 rfl rfl rfl ?_
 obtain ⟨o7,h8,h⟩:=j6 h
 refine jk (ι:={ s // o7=s }) hn (fun s=>[]) (fun s=>[(205,.row 1 (List.map J8 s.1) 3)]) [(5,_)] [] (fun _ A1 _ _=>?_) ?_
 ·refine j4.blkQ fun _ _ E2 _ _=>?_
  refine lq (ι:={ q:(Nat×Int×(List Int)) // P9 N a0 q.1 q.2.1 q.2.2=some o7 }) hn (fun q=>[(1,.int q.1.2.1)]) (fun q=>[(205,.row 1 (List.map J8 q.1.2.2) 3)]) (fun q=>q.1.1) [(2,_),(5,_)] [(2,_)] ⟨(N,a1,([]:List Int)),h8⟩ [] ?_
  rintro ⟨⟨n_,v2,v3⟩,h8⟩ _ A3 X3 _
  rcases n_ with _|n11
  ·rw [P9.eq_1] at h8
   cases h8
  ·replace h8:=(P9.eq_2 _ _ _ _ _).symm.trans h8
   refine j4.seqQ fun _ A4 X4 _=>?_
   refine j4.seqQ fun _ A5 _ _=>?_
   obtain ⟨o14,h13,h8⟩:=j6 h8
   refine jk (ι:={ s // o14=s }) hn (fun s=>[(22,.bool s.1)]) (fun s=>[]) [(1,_),(2,_),(5,_)] [(2,_),(205,_)] (fun _ A6 _ _=>?_) ?_
   ·refine u6 hn ?_
    refine l5 h13 (fun hb15 h13=>?_) (fun hb15 h13=>?_)
    ·refine j3 hb15 ?_
     refine j3 hb15 ?_
     refine j3 hb15 ?_
     refine y8 (fun _=>?_)
     refine j3 hb15 ?_
     refine j3 hb15 ?_
     refine l5 h13 (fun hb17 h13=>?_) (fun hb17 h13=>?_)
     ·refine j3 hb17 ?_
      refine y8 (fun _=>?_)
      refine j3 hb17 ?_
      refine j3 hb17 ?_
      refine j3 hb17 ?_
      refine y8 (fun _=>?_)
      refine j3 hb17 ?_
      refine j3 hb17 ?_
      refine A6 _ _ ?_
      exact jn ⟨_,sj h13⟩ []
     refine d9 hb17 ?_
     refine d9 hb17 ?_
     refine d9 hb17 ?_
     refine d9 hb17 ?_
     refine d9 hb17 ?_
     refine d9 hb17 ?_
     refine A6 _ _ ?_
     exact jn ⟨_,sj h13⟩ []
    refine d9 hb15 ?_
    refine d9 hb15 ?_
    refine d9 hb15 ?_
    refine d9 hb15 ?_
    refine d9 hb15 ?_
    refine A6 _ _ ?_
    exact jn ⟨_,sj h13⟩ []
   rintro ⟨v12,hv_⟩
   replace hv_:=hv_.symm
   subst hv_
   refine A5 _ _ ?_
   refine l9 hn ?_
   refine l5 h8 (fun hb20 h8=>?_) (fun hb20 h8=>?_)
   ·refine q9 hn ?_
    refine A4 _ _ ?_
    refine j4.blkQ fun _ A7 _ _ _=>?_
    refine j5 hn ?_
    refine Exists.intro (List.map J8 [v2]) (And.intro (by repeat (first|exact trivial|exact rfl|(refine And.intro ?_ ?_))) ?_)
    obtain ⟨hg21,h8⟩:=O1 h8
    refine aO0 (l2:=[v2]) hg21 (F9 _) ?_
    refine u6 hn ?_
    obtain ⟨x22,hx23,h8⟩:=j6 h8
    refine Q3 hx23 ?_
    refine A7 _ _ ?_
    refine A3 _ _ ?_
    exact jn ⟨(n11,x22.super,(v3++[v2])),h8⟩ [(205,26)] (by show n11 < n11+1; omega)
   refine H8 hn ?_
   refine X4 _ _ _ ?_
   refine X3 _ _ _ ?_
   refine E2 _ _ ?_
   refine A1 _ _ ?_
   exact jn ⟨_,sj h8⟩ []
 rintro ⟨v6,hv_⟩
 replace hv_:=hv_.symm
 subst hv_
 refine A0 _ _ ?_
 refine j5 hn ?_
 refine got hn ?_
 obtain rfl:=Option.some.inj h
 exact ⟨[(0,205)],_,fm⟩

/- qcref1.Slots -/
set_option maxRecDepth 100000 in
set_option maxHeartbeats 8000000 in
theorem aA5 (N:Nat) (a0:Wd) (a1:Int) (r:Int) (h:P5 N a0 a1=some r):Spec Try.prog 29 [] [.agg (eWd a0),.int a1] (.int r) [] []:=by
 refine Spec.of D9 Try.func29 rfl Try.ntmps29 (by kernel_rfl) rfl rfl rfl fun Γ hn=>?_
 unfold P5 at h
 refine j5 hn ?_
 refine j5 hn ?_
 refine j4.seqQ fun _ A0 _ _=>?_
 refine j5 hn ?_
 obtain ⟨r1,hr2,h⟩:=j6 h
 show p9 Try.prog _ _ _ _
 refine cA ((bG7 N a0 a1 r1 hr2).sw 0 10) ?_
 refine y8 (fun hl3=>?_)
 obtain ⟨o8,h9,h⟩:=j6 h
 refine jk (ι:={ s // o8=s }) hn (fun s=>[(5,.int s.1)]) (fun s=>[]) [] [] (fun _ A1 _ _=>?_) ?_
 ·refine j4.blkQ fun _ _ E2 _ _=>?_
  refine lq (ι:={ q:((List Int)×Nat×Int) // q.1=r1.drop q.2.1∧M9 N a0 r1 q.1 q.2.1 q.2.2=some o8 }) hn (fun q=>[(5,.int q.1.2.2),(12,.int (q.1.2.1:Int))]) (fun q=>[]) (fun q=>q.1.1.length) [(2,_),(10,_),(11,_)] [(2,_),(10,_)] ⟨(r1,0,(0:Int)),rfl,h9⟩ [] ?_
  rintro ⟨⟨rest_,k4,v5⟩,hd11,h9⟩ _ A3 X3 _
  replace hd11:rest_=r1.drop k4:=hd11
  rcases rest_ with _|⟨x13,rest10⟩
  ·have hlt15:=J7 hd11
   replace h9:=(M9.eq_1 _ _ _ _ _).symm.trans h9
   refine j5 hn ?_
   refine j4.seqQ fun _ _ X4 _=>?_
   refine l9 hn ?_
   refine d9 hlt15 ?_
   refine H8 hn ?_
   refine X4 _ _ _ ?_
   refine X3 _ _ _ ?_
   refine E2 _ _ ?_
   refine A1 _ _ ?_
   exact jn ⟨_,sj h9⟩ []
  ·obtain ⟨hx14,hd2,hlt15⟩:=D5 hd11
   replace h9:=(M9.eq_2 _ _ _ _ _ _ _).symm.trans h9
   refine j5 hn ?_
   refine j4.seqQ fun _ A5 _ _=>?_
   refine l9 hn ?_
   refine j3 hlt15 ?_
   refine q9 hn ?_
   refine A5 _ _ ?_
   refine j4.seqQ fun _ A6 _ _=>?_
   refine j4.blkQ fun _ A7 _ _ _=>?_
   refine j5 hn ?_
   obtain ⟨x16,hx17,h9⟩:=j6 h9
   refine aH3 hx17 ?_
   refine ldM (F6 hx17).2 ?_
   refine u6 hn ?_
   obtain ⟨x18,hx19,h9⟩:=j6 h9
   refine Q3 hx19 ?_
   refine Or.inr ?_
   refine A7 _ _ ?_
   refine A6 _ _ ?_
   refine kp [(2,_),(5,_),(10,_),(11,_),(12,_)] [(2,_),(10,_)] ?_
   refine u6 hn ?_
   refine Or.inl (And.intro (Z5 hx14 hl3) ?_)
   refine A3 _ _ ?_
   exact jn ⟨(rest10,k4+1,(wr (v5+x18.slots))),hd2,h9⟩ [] (by show rest10.length < rest10.length+1; omega)
 rintro ⟨v7,hv_⟩
 replace hv_:=hv_.symm
 subst hv_
 refine A0 _ _ ?_
 refine j5 hn ?_
 refine got hn ?_
 obtain rfl:=Option.some.inj h
 exact ⟨[],_,fm⟩

/- qcref1.Numbers -/
set_option maxRecDepth 100000 in
set_option maxHeartbeats 8000000 in
theorem aX8 (N:Nat) (a0:Wd) (a1:Int) (a2:Me) (a3:Ins) (r:Int) (h:M0 N a0 a1 a2 a3=some r):Spec Try.prog 76 [] [.agg (eWd a0),.int a1,.agg (F3 a2),.agg (aE9 a3)] (.int r) [] []:=by
 refine Spec.of D9 Try.func76 rfl Try.ntmps76 (by kernel_rfl) rfl rfl rfl fun Γ hn=>?_
 unfold M0 at h
 refine j5 hn ?_
 refine j5 hn ?_
 refine j4.seqQ fun _ A0 _ R0=>?_
 refine j5 hn ?_
 obtain ⟨o4,h3,h⟩:=j6 h
 refine jk (ι:={ s // o4=G8.next s }) hn (fun s=>[(9,.int s.1.1),(10,.int s.1.2)]) (fun s=>[]) [(7,_)] [(7,_)] (fun _ A1 _ R1=>?_) ?_
 ·refine j4.blkQ fun _ A2 _ _ R2=>?_
  refine j4.seqQ fun _ A3 _ _=>?_
  refine j5 hn ?_
  obtain ⟨o7,h6,h3⟩:=j6 h3
  refine jk (ι:={ s // o7=s }) hn (fun s=>[(13,.bool s.1)]) (fun s=>[]) [(1,_),(4,_),(6,_),(7,_),(9,_),(10,_),(12,_)] [(4,_),(6,_),(7,_)] (fun _ A4 _ _=>?_) ?_
  ·refine l9 hn ?_
   refine l5 h6 (fun hb8 h6=>?_) (fun hb8 h6=>?_)
   ·refine q9 hn ?_
    refine A4 _ _ ?_
    exact jn ⟨_,sj h6⟩ []
   refine j5 hn ?_
   obtain ⟨o11,h10,h6⟩:=j6 h6
   refine jk (ι:={ s // o11=s }) hn (fun s=>[(13,.bool s.1)]) (fun s=>[]) [(1,_),(4,_),(6,_),(7,_),(9,_),(10,_),(12,_)] [(4,_),(6,_),(7,_)] (fun _ A5 _ _=>?_) ?_
   ·refine l9 hn ?_
    refine l5 h10 (fun hb12 h10=>?_) (fun hb12 h10=>?_)
    ·refine q9 hn ?_
     refine A5 _ _ ?_
     exact jn ⟨_,sj h10⟩ []
    refine j5 hn ?_
    obtain ⟨o15,h14,h10⟩:=j6 h10
    refine jk (ι:={ s // o15=s }) hn (fun s=>[(13,.bool s.1)]) (fun s=>[]) [(1,_),(4,_),(6,_),(7,_),(9,_),(10,_),(12,_)] [(4,_),(6,_),(7,_)] (fun _ A6 _ _=>?_) ?_
    ·refine l9 hn ?_
     refine l5 h14 (fun hb16 h14=>?_) (fun hb16 h14=>?_)
     ·refine q9 hn ?_
      refine A6 _ _ ?_
      exact jn ⟨_,sj h14⟩ []
     refine j5 hn ?_
     obtain ⟨o19,h18,h14⟩:=j6 h14
     refine jk (ι:={ s // o19=s }) hn (fun s=>[(13,.bool s.1)]) (fun s=>[]) [(1,_),(4,_),(6,_),(7,_),(9,_),(10,_),(12,_)] [(4,_),(6,_),(7,_)] (fun _ A7 _ _=>?_) ?_
     ·refine l9 hn ?_
      refine l5 h18 (fun hb20 h18=>?_) (fun hb20 h18=>?_)
      ·refine q9 hn ?_
       refine A7 _ _ ?_
       exact jn ⟨_,sj h18⟩ []
      refine kp [(1,_),(4,_),(6,_),(7,_),(9,_),(10,_),(12,_)] [(4,_),(6,_),(7,_)] ?_
      refine j5 hn ?_
      obtain ⟨o23,h22,h18⟩:=j6 h18
      refine jk (ι:={ s // o23=s }) hn (fun s=>[(13,.bool s.1)]) (fun s=>[]) [(1,_),(4,_),(6,_),(7,_),(9,_),(10,_),(12,_)] [(4,_),(6,_),(7,_)] (fun _ A8 _ _=>?_) ?_
      ·refine l9 hn ?_
       refine l5 h22 (fun hb24 h22=>?_) (fun hb24 h22=>?_)
       ·refine q9 hn ?_
        refine A8 _ _ ?_
        exact jn ⟨_,sj h22⟩ []
       refine j5 hn ?_
       obtain ⟨o27,h26,h22⟩:=j6 h22
       refine jk (ι:={ s // o27=s }) hn (fun s=>[(13,.bool s.1)]) (fun s=>[]) [(1,_),(4,_),(6,_),(7,_),(9,_),(10,_),(12,_)] [(4,_),(6,_),(7,_)] (fun _ A9 _ _=>?_) ?_
       ·refine l9 hn ?_
        refine l5 h26 (fun hb28 h26=>?_) (fun hb28 h26=>?_)
        ·refine q9 hn ?_
         refine A9 _ _ ?_
         exact jn ⟨_,sj h26⟩ []
        refine u6 hn ?_
        refine A9 _ _ ?_
        exact jn ⟨_,sj h26⟩ []
       rintro ⟨v25,hv_⟩
       replace hv_:=hv_.symm
       subst hv_
       refine A8 _ _ ?_
       exact jn ⟨_,sj h22⟩ []
      rintro ⟨v21,hv_⟩
      replace hv_:=hv_.symm
      subst hv_
      refine A7 _ _ ?_
      exact jn ⟨_,sj h18⟩ []
     rintro ⟨v17,hv_⟩
     replace hv_:=hv_.symm
     subst hv_
     refine A6 _ _ ?_
     exact jn ⟨_,sj h14⟩ []
    rintro ⟨v13,hv_⟩
    replace hv_:=hv_.symm
    subst hv_
    refine A5 _ _ ?_
    exact jn ⟨_,sj h10⟩ []
   rintro ⟨v9,hv_⟩
   replace hv_:=hv_.symm
   subst hv_
   refine A4 _ _ ?_
   exact jn ⟨_,sj h6⟩ []
  rintro ⟨v5,hv_⟩
  replace hv_:=hv_.symm
  subst hv_
  refine A3 _ _ ?_
  obtain ⟨o32,h31,h3⟩:=j6 h3
  refine jk (ι:={ s // o32=G8.next s }) hn (fun s=>[(9,.int s.1.1),(10,.int s.1.2)]) (fun s=>[]) [(7,_)] [(7,_)] (fun _ A10 _ R10=>?_) ?_
  ·refine l9 hn ?_
   refine l5 h31 (fun hb33 h31=>?_) (fun hb33 h31=>?_)
   ·refine q9 hn ?_
    refine A10 _ _ ?_
    exact jn ⟨_,sj h31⟩ []
   refine j5 hn ?_
   obtain ⟨o37,h36,h31⟩:=j6 h31
   refine jk (ι:={ s // o37=G8.next s }) hn (fun s=>[(9,.int s.1.1),(10,.int s.1.2)]) (fun s=>[]) [(7,_)] [(7,_)] (fun _ A11 _ R11=>?_) ?_
   ·refine l9 hn ?_
    refine l5 h36 (fun hb38 h36=>?_) (fun hb38 h36=>?_)
    ·refine u6 hn ?_
     refine Or.inr ?_
     refine A11 _ _ ?_
     exact jn ⟨_,sj h36⟩ []
    refine j4.seqQ fun _ A12 _ _=>?_
    refine j5 hn ?_
    obtain ⟨o41,h40,h36⟩:=j6 h36
    refine jk (ι:={ s // o41=s }) hn (fun s=>[(26,.bool s.1)]) (fun s=>[]) [(1,_),(4,_),(6,_),(7,_),(9,_),(12,_)] [(4,_),(6,_),(7,_)] (fun _ A13 _ _=>?_) ?_
    ·refine l9 hn ?_
     refine l5 h40 (fun hb42 h40=>?_) (fun hb42 h40=>?_)
     ·refine q9 hn ?_
      refine A13 _ _ ?_
      exact jn ⟨_,sj h40⟩ []
     refine u6 hn ?_
     refine A13 _ _ ?_
     exact jn ⟨_,sj h40⟩ []
    rintro ⟨v39,hv_⟩
    replace hv_:=hv_.symm
    subst hv_
    refine A12 _ _ ?_
    obtain ⟨o46,h45,h36⟩:=j6 h36
    refine jk (ι:={ s // o46=G8.next s }) hn (fun s=>[(9,.int s.1.1),(10,.int s.1.2)]) (fun s=>[]) [(7,_)] [(7,_)] (fun _ A14 _ R14=>?_) ?_
    ·refine l9 hn ?_
     refine l5 h45 (fun hb47 h45=>?_) (fun hb47 h45=>?_)
     ·refine u6 hn ?_
      refine Or.inr ?_
      refine A14 _ _ ?_
      exact jn ⟨_,sj h45⟩ []
     refine j4.seqQ fun _ A15 _ _=>?_
     refine j5 hn ?_
     obtain ⟨o50,h49,h45⟩:=j6 h45
     refine jk (ι:={ s // o50=s }) hn (fun s=>[(32,.bool s.1)]) (fun s=>[]) [(1,_),(4,_),(6,_),(7,_),(9,_),(12,_)] [(4,_),(6,_),(7,_)] (fun _ A16 _ _=>?_) ?_
     ·refine l9 hn ?_
      refine l5 h49 (fun hb51 h49=>?_) (fun hb51 h49=>?_)
      ·refine q9 hn ?_
       refine A16 _ _ ?_
       exact jn ⟨_,sj h49⟩ []
      refine u6 hn ?_
      refine A16 _ _ ?_
      exact jn ⟨_,sj h49⟩ []
     rintro ⟨v48,hv_⟩
     replace hv_:=hv_.symm
     subst hv_
     refine A15 _ _ ?_
     obtain ⟨o55,h54,h45⟩:=j6 h45
     refine jk (ι:={ s // o55=G8.next s }) hn (fun s=>[(9,.int s.1.1),(10,.int s.1.2)]) (fun s=>[]) [(7,_)] [(7,_)] (fun _ A17 _ R17=>?_) ?_
     ·refine l9 hn ?_
      refine l5 h54 (fun hb56 h54=>?_) (fun hb56 h54=>?_)
      ·refine u6 hn ?_
       obtain ⟨r57,hr58,h54⟩:=j6 h54
       show p9 Try.prog _ _ _ _
       refine cA (aA5 N a0 a1 r57 hr58) ?_
       refine Or.inr ?_
       refine A17 _ _ ?_
       exact jn ⟨_,sj h54⟩ []
      refine j5 hn ?_
      obtain ⟨o62,h61,h54⟩:=j6 h54
      refine jk (ι:={ s // o62=G8.next s }) hn (fun s=>[(9,.int s.1.1),(10,.int s.1.2)]) (fun s=>[]) [(7,_)] [(7,_)] (fun _ A18 _ R18=>?_) ?_
      ·refine l9 hn ?_
       refine l5 h61 (fun hb63 h61=>?_) (fun hb63 h61=>?_)
       ·refine u6 hn ?_
        refine A18 _ _ ?_
        exact jn ⟨_,sj h61⟩ []
       refine j5 hn ?_
       obtain ⟨o66,h65,h61⟩:=j6 h61
       refine jk (ι:={ s // o66=G8.next s }) hn (fun s=>[(10,.int s.1)]) (fun s=>[]) [(7,_),(9,_)] [(7,_)] (fun _ A19 _ R19=>?_) ?_
       ·refine l9 hn ?_
        refine l5 h65 (fun hb67 h65=>?_) (fun hb67 h65=>?_)
        ·refine j5 hn ?_
         refine y8 (fun _=>?_)
         refine Or.inr ?_
         refine j4.seqQ fun _ A20 _ _=>?_
         obtain ⟨o71,h70,h65⟩:=j6 h65
         refine jk (ι:={ s // o71=s }) hn (fun s=>[(54,.bool s.1)]) (fun s=>[]) [(7,_),(9,_),(10,_)] [(7,_)] (fun _ A21 _ _=>?_) ?_
         ·refine u6 hn ?_
          refine l5 h70 (fun hb72 h70=>?_) (fun hb72 h70=>?_)
          ·refine j3 hb72 ?_
           refine j3 hb72 ?_
           refine j3 hb72 ?_
           refine A21 _ _ ?_
           exact jn ⟨_,sj h70⟩ []
          refine d9 hb72 ?_
          refine d9 hb72 ?_
          refine d9 hb72 ?_
          refine A21 _ _ ?_
          exact jn ⟨_,sj h70⟩ []
         rintro ⟨v69,hv_⟩
         replace hv_:=hv_.symm
         subst hv_
         refine A20 _ _ ?_
         refine l9 hn ?_
         refine l5 h65 (fun hb73 h65=>?_) (fun hb73 h65=>?_)
         ·refine j5 hn ?_
          refine got hn ?_
          refine R19 _ _ ?_
          refine R18 _ _ ?_
          refine R17 _ _ ?_
          refine R14 _ _ ?_
          refine R11 _ _ ?_
          refine R10 _ _ ?_
          refine R2 _ _ ?_
          refine R1 _ _ ?_
          refine R0 _ _ ?_
          obtain rfl:=Option.some.inj h65
          obtain rfl:=Option.some.inj h61
          obtain rfl:=Option.some.inj h54
          obtain rfl:=Option.some.inj h45
          obtain rfl:=Option.some.inj h36
          obtain rfl:=Option.some.inj h31
          obtain rfl:=Option.some.inj h3
          obtain rfl:=Option.some.inj h
          exact ⟨[],_,fm⟩
         refine q9 hn ?_
         refine A19 _ _ ?_
         exact jn ⟨_,sj h65⟩ []
        refine j5 hn ?_
        obtain ⟨o76,h75,h65⟩:=j6 h65
        refine jk (ι:={ s // o76=G8.next s }) hn (fun s=>[(10,.int s.1)]) (fun s=>[]) [(7,_),(9,_)] [(7,_)] (fun _ A22 _ R22=>?_) ?_
        ·refine l9 hn ?_
         refine l5 h75 (fun hb77 h75=>?_) (fun hb77 h75=>?_)
         ·refine u6 hn ?_
          refine A22 _ _ ?_
          exact jn ⟨_,sj h75⟩ []
         refine j4.seqQ fun _ A23 _ _=>?_
         refine j5 hn ?_
         obtain ⟨o80,h79,h75⟩:=j6 h75
         refine jk (ι:={ s // o80=s }) hn (fun s=>[(57,.bool s.1)]) (fun s=>[]) [(6,_),(7,_),(9,_)] [(6,_),(7,_)] (fun _ A24 _ _=>?_) ?_
         ·refine l9 hn ?_
          refine l5 h79 (fun hb81 h79=>?_) (fun hb81 h79=>?_)
          ·refine q9 hn ?_
           refine A24 _ _ ?_
           exact jn ⟨_,sj h79⟩ []
          refine u6 hn ?_
          refine A24 _ _ ?_
          exact jn ⟨_,sj h79⟩ []
         rintro ⟨v78,hv_⟩
         replace hv_:=hv_.symm
         subst hv_
         refine A23 _ _ ?_
         refine l9 hn ?_
         refine l5 h75 (fun hb82 h75=>?_) (fun hb82 h75=>?_)
         ·refine u6 hn ?_
          refine y8 (fun _=>?_)
          refine Or.inr ?_
          refine A22 _ _ ?_
          exact jn ⟨_,sj h75⟩ []
         refine j5 hn ?_
         refine got hn ?_
         refine R22 _ _ ?_
         refine R19 _ _ ?_
         refine R18 _ _ ?_
         refine R17 _ _ ?_
         refine R14 _ _ ?_
         refine R11 _ _ ?_
         refine R10 _ _ ?_
         refine R2 _ _ ?_
         refine R1 _ _ ?_
         refine R0 _ _ ?_
         obtain rfl:=Option.some.inj h75
         obtain rfl:=Option.some.inj h65
         obtain rfl:=Option.some.inj h61
         obtain rfl:=Option.some.inj h54
         obtain rfl:=Option.some.inj h45
         obtain rfl:=Option.some.inj h36
         obtain rfl:=Option.some.inj h31
         obtain rfl:=Option.some.inj h3
         obtain rfl:=Option.some.inj h
         exact ⟨[],_,fm⟩
        rintro ⟨v74,rfl⟩
        refine A19 _ _ ?_
        exact jn ⟨_,sj h65⟩ []
       rintro ⟨v64,rfl⟩
       refine A18 _ _ ?_
       exact jn ⟨_,sj h61⟩ []
      rintro ⟨⟨v59,v60⟩,rfl⟩
      refine A17 _ _ ?_
      exact jn ⟨_,sj h54⟩ []
     rintro ⟨⟨v52,v53⟩,rfl⟩
     refine A14 _ _ ?_
     exact jn ⟨_,sj h45⟩ []
    rintro ⟨⟨v43,v44⟩,rfl⟩
    refine A11 _ _ ?_
    exact jn ⟨_,sj h36⟩ []
   rintro ⟨⟨v34,v35⟩,rfl⟩
   refine A10 _ _ ?_
   exact jn ⟨_,sj h31⟩ []
  rintro ⟨⟨v29,v30⟩,rfl⟩
  refine A2 _ _ ?_
  refine A1 _ _ ?_
  exact jn ⟨_,sj h3⟩ []
 rintro ⟨⟨v1,v2⟩,rfl⟩
 refine A0 _ _ ?_
 refine j4.seqQ fun _ A25 _ R25=>?_
 refine j4.seqQ fun _ A26 _ _=>?_
 obtain ⟨o86,h85,h⟩:=j6 h
 refine jk (ι:={ s // o86=s }) hn (fun s=>[(73,.bool s.1)]) (fun s=>[]) [(7,_)] [(7,_)] (fun _ A27 _ _=>?_) ?_
 ·refine u6 hn ?_
  refine l5 h85 (fun hb87 h85=>?_) (fun hb87 h85=>?_)
  ·refine j3 hb87 ?_
   refine j3 hb87 ?_
   refine j3 hb87 ?_
   refine j3 hb87 ?_
   refine A27 _ _ ?_
   exact jn ⟨_,sj h85⟩ []
  refine d9 hb87 ?_
  refine d9 hb87 ?_
  refine d9 hb87 ?_
  refine d9 hb87 ?_
  refine A27 _ _ ?_
  exact jn ⟨_,sj h85⟩ []
 rintro ⟨v84,hv_⟩
 replace hv_:=hv_.symm
 subst hv_
 refine A26 _ _ ?_
 refine l9 hn ?_
 refine l5 h (fun hb88 h=>?_) (fun hb88 h=>?_)
 ·refine j5 hn ?_
  refine got hn ?_
  refine R25 _ _ ?_
  obtain rfl:=Option.some.inj h
  exact ⟨[],_,fm⟩
 refine q9 hn ?_
 refine A25 _ _ ?_
 refine j4.seqQ fun _ A28 _ R28=>?_
 refine j4.seqQ fun _ A29 _ _=>?_
 obtain ⟨o91,h90,h⟩:=j6 h
 refine jk (ι:={ s // o91=s }) hn (fun s=>[(102,.bool s.1)]) (fun s=>[]) [] [] (fun _ A30 _ _=>?_) ?_
 ·refine u6 hn ?_
  refine l5 h90 (fun hb92 h90=>?_) (fun hb92 h90=>?_)
  ·refine j3 hb92 ?_
   refine j3 hb92 ?_
   obtain ⟨r93,hr94,h90⟩:=j6 h90
   show p9 Try.prog _ _ _ _
   refine cA (aH5 N a3.name r93 hr94) ?_
   refine j3 hb92 ?_
   refine j3 hb92 ?_
   refine l5 h90 (fun hb95 h90=>?_) (fun hb95 h90=>?_)
   ·refine j3 hb95 ?_
    refine j3 hb95 ?_
    refine j3 hb95 ?_
    refine j3 hb95 ?_
    refine j3 hb95 ?_
    refine A30 _ _ ?_
    exact jn ⟨_,sj h90⟩ []
   refine d9 hb95 ?_
   refine d9 hb95 ?_
   refine d9 hb95 ?_
   refine l5 h90 (fun hb96 h90=>?_) (fun hb96 h90=>?_)
   ·refine j3 hb96 ?_
    refine j3 hb96 ?_
    refine d9 hb95 ?_
    refine j3 hb96 ?_
    refine d9 hb95 ?_
    refine l5 h90 (fun hb97 h90=>?_) (fun hb97 h90=>?_)
    ·refine j3 hb97 ?_
     refine j3 hb97 ?_
     refine j3 hb97 ?_
     refine A30 _ _ ?_
     exact jn ⟨_,sj h90⟩ []
    refine d9 hb97 ?_
    refine d9 hb97 ?_
    refine d9 hb97 ?_
    refine l5 h90 (fun hb98 h90=>?_) (fun hb98 h90=>?_)
    ·refine j3 hb98 ?_
     refine j3 hb98 ?_
     refine j3 hb98 ?_
     refine A30 _ _ ?_
     exact jn ⟨_,sj h90⟩ []
    refine d9 hb98 ?_
    refine d9 hb98 ?_
    refine d9 hb98 ?_
    refine A30 _ _ ?_
    exact jn ⟨_,sj h90⟩ []
   refine d9 hb96 ?_
   refine d9 hb96 ?_
   refine d9 hb95 ?_
   refine d9 hb96 ?_
   refine d9 hb95 ?_
   refine l5 h90 (fun hb99 h90=>?_) (fun hb99 h90=>?_)
   ·refine j3 hb99 ?_
    refine j3 hb99 ?_
    refine j3 hb99 ?_
    refine A30 _ _ ?_
    exact jn ⟨_,sj h90⟩ []
   refine d9 hb99 ?_
   refine d9 hb99 ?_
   refine d9 hb99 ?_
   refine A30 _ _ ?_
   exact jn ⟨_,sj h90⟩ []
  refine d9 hb92 ?_
  refine d9 hb92 ?_
  refine d9 hb92 ?_
  refine d9 hb92 ?_
  refine l5 h90 (fun hb100 h90=>?_) (fun hb100 h90=>?_)
  ·refine j3 hb100 ?_
   refine j3 hb100 ?_
   refine j3 hb100 ?_
   refine l5 h90 (fun hb101 h90=>?_) (fun hb101 h90=>?_)
   ·refine j3 hb101 ?_
    refine j3 hb101 ?_
    refine j3 hb101 ?_
    refine A30 _ _ ?_
    exact jn ⟨_,sj h90⟩ []
   refine d9 hb101 ?_
   refine d9 hb101 ?_
   refine d9 hb101 ?_
   refine l5 h90 (fun hb102 h90=>?_) (fun hb102 h90=>?_)
   ·refine j3 hb102 ?_
    refine j3 hb102 ?_
    refine j3 hb102 ?_
    refine A30 _ _ ?_
    exact jn ⟨_,sj h90⟩ []
   refine d9 hb102 ?_
   refine d9 hb102 ?_
   refine d9 hb102 ?_
   refine A30 _ _ ?_
   exact jn ⟨_,sj h90⟩ []
  refine d9 hb100 ?_
  refine d9 hb100 ?_
  refine d9 hb100 ?_
  refine l5 h90 (fun hb103 h90=>?_) (fun hb103 h90=>?_)
  ·refine j3 hb103 ?_
   refine j3 hb103 ?_
   refine j3 hb103 ?_
   refine A30 _ _ ?_
   exact jn ⟨_,sj h90⟩ []
  refine d9 hb103 ?_
  refine d9 hb103 ?_
  refine d9 hb103 ?_
  refine A30 _ _ ?_
  exact jn ⟨_,sj h90⟩ []
 rintro ⟨v89,hv_⟩
 replace hv_:=hv_.symm
 subst hv_
 refine A29 _ _ ?_
 refine l9 hn ?_
 refine l5 h (fun hb104 h=>?_) (fun hb104 h=>?_)
 ·refine j5 hn ?_
  refine got hn ?_
  refine R28 _ _ ?_
  obtain rfl:=Option.some.inj h
  exact ⟨[],_,fm⟩
 refine q9 hn ?_
 refine A28 _ _ ?_
 refine j5 hn ?_
 refine got hn ?_
 obtain rfl:=Option.some.inj h
 exact ⟨[],_,fm⟩

/- qcref1.Next -/
set_option maxRecDepth 100000 in
set_option maxHeartbeats 8000000 in
theorem bD9 (N:Nat) (a0:Ins) (a1:Int) (r:(Int×Int×(List Int))) (h:aC8 N a0 a1=some r):Spec Try.prog 96 [] [.agg (aE9 a0),.int a1] (.tup [.int r.1,.int r.2.1,.own 0]) [(0,.row 1 (List.map J8 r.2.2) 3)] [0]:=by
 refine Spec.of D9 Try.func96 rfl Try.ntmps96 (by kernel_rfl) rfl rfl rfl fun Γ hn=>?_
 unfold aC8 at h
 refine j5 hn ?_
 refine j4.seqQ fun _ A0 _ R0=>?_
 refine j5 hn ?_
 refine j4.blkQ fun _ A1 _ _ R1=>?_
 refine j4.seqQ fun _ A2 _ _=>?_
 refine j5 hn ?_
 obtain ⟨o3,h2,h⟩:=j6 h
 refine jk (ι:={ s // o3=s }) hn (fun s=>[(9,.bool s.1)]) (fun s=>[]) [(1,_),(2,_),(8,_)] [(2,_)] (fun _ A3 _ _=>?_) ?_
 ·refine l9 hn ?_
  refine l5 h2 (fun hb4 h2=>?_) (fun hb4 h2=>?_)
  ·refine q9 hn ?_
   refine A3 _ _ ?_
   exact jn ⟨_,sj h2⟩ []
  refine j5 hn ?_
  obtain ⟨o7,h6,h2⟩:=j6 h2
  refine jk (ι:={ s // o7=s }) hn (fun s=>[(9,.bool s.1)]) (fun s=>[]) [(1,_),(2,_),(8,_)] [(2,_)] (fun _ A4 _ _=>?_) ?_
  ·refine l9 hn ?_
   refine l5 h6 (fun hb8 h6=>?_) (fun hb8 h6=>?_)
   ·refine q9 hn ?_
    refine A4 _ _ ?_
    exact jn ⟨_,sj h6⟩ []
   refine u6 hn ?_
   refine A4 _ _ ?_
   exact jn ⟨_,sj h6⟩ []
  rintro ⟨v5,hv_⟩
  replace hv_:=hv_.symm
  subst hv_
  refine A3 _ _ ?_
  exact jn ⟨_,sj h2⟩ []
 rintro ⟨v1,hv_⟩
 replace hv_:=hv_.symm
 subst hv_
 refine A2 _ _ ?_
 refine l9 hn ?_
 refine l5 h (fun hb9 h=>?_) (fun hb9 h=>?_)
 ·refine j5 hn ?_
  refine Or.inr ?_
  refine Exists.intro (List.map J8 [(wr (a1+(1:Int)))]) (And.intro (by repeat (first|exact trivial|exact rfl|(refine And.intro ?_ ?_))) ?_)
  refine got hn ?_
  refine R1 _ _ ?_
  refine R0 _ _ ?_
  obtain rfl:=Option.some.inj h
  exact ⟨[(0,15)],_,fm⟩
 refine j5 hn ?_
 refine l9 hn ?_
 refine l5 h (fun hb10 h=>?_) (fun hb10 h=>?_)
 ·refine j5 hn ?_
  refine Or.inr ?_
  refine Exists.intro (List.map J8 [(wr (a1+(1:Int)))]) (And.intro (by repeat (first|exact trivial|exact rfl|(refine And.intro ?_ ?_))) ?_)
  refine got hn ?_
  refine R1 _ _ ?_
  refine R0 _ _ ?_
  obtain rfl:=Option.some.inj h
  exact ⟨[(0,20)],_,fm⟩
 refine j5 hn ?_
 refine l9 hn ?_
 refine l5 h (fun hb11 h=>?_) (fun hb11 h=>?_)
 ·refine j4.seqQ fun _ A5 _ _=>?_
  refine god hn (by kernel_rfl) ?_
  refine Or.inr ?_
  obtain ⟨hg12,h⟩:=O1 h
  refine bU5 hg12 ?_
  refine Or.inr ?_
  refine Exists.intro (List.map J8 [(wr (a1+(1:Int)))]) (And.intro (by repeat (first|exact trivial|exact rfl|(refine And.intro ?_ ?_))) ?_)
  refine A5 _ _ ?_
  refine got hn ?_
  refine R1 _ _ ?_
  refine R0 _ _ ?_
  obtain rfl:=Option.some.inj h
  exact ⟨[(0,31)],_,fm⟩
 refine j5 hn ?_
 refine l9 hn ?_
 refine l5 h (fun hb13 h=>?_) (fun hb13 h=>?_)
 ·refine j4.seqQ fun _ A6 _ _=>?_
  refine god hn (by kernel_rfl) ?_
  refine Exists.intro (List.map J8 [a0.a]) (And.intro (by repeat (first|exact trivial|exact rfl|(refine And.intro ?_ ?_))) ?_)
  refine A6 _ _ ?_
  refine got hn ?_
  refine R1 _ _ ?_
  refine R0 _ _ ?_
  obtain rfl:=Option.some.inj h
  exact ⟨[(0,36)],_,fm⟩
 refine j5 hn ?_
 refine l9 hn ?_
 refine l5 h (fun hb14 h=>?_) (fun hb14 h=>?_)
 ·refine j4.seqQ fun _ A7 _ _=>?_
  refine god hn (by kernel_rfl) ?_
  refine Or.inr ?_
  refine Exists.intro (List.map J8 [(wr (a1+(1:Int))),a0.a]) (And.intro (by repeat (first|exact trivial|exact rfl|(refine And.intro ?_ ?_))) ?_)
  refine A7 _ _ ?_
  refine got hn ?_
  refine R1 _ _ ?_
  refine R0 _ _ ?_
  obtain rfl:=Option.some.inj h
  exact ⟨[(0,43)],_,fm⟩
 refine j5 hn ?_
 refine l9 hn ?_
 refine l5 h (fun hb15 h=>?_) (fun hb15 h=>?_)
 ·refine j5 hn ?_
  refine j4.nilrow 6 206 1 3 rfl rfl rfl ?_
  refine got hn ?_
  refine R1 _ _ ?_
  refine R0 _ _ ?_
  obtain rfl:=Option.some.inj h
  exact ⟨[(0,206)],_,fm⟩
 refine q9 hn ?_
 refine A1 _ _ ?_
 refine A0 _ _ ?_
 refine j5 hn ?_
 refine Or.inr ?_
 refine Exists.intro (List.map J8 [(wr (a1+(1:Int)))]) (And.intro (by repeat (first|exact trivial|exact rfl|(refine And.intro ?_ ?_))) ?_)
 refine got hn ?_
 obtain rfl:=Option.some.inj h
 exact ⟨[(0,48)],_,fm⟩

/- qcref1.Heights -/
set_option maxRecDepth 100000 in
set_option maxHeartbeats 8000000 in
theorem aY0 (N:Nat) (a0:Me) (r:((List Int)×K3)) (h:Q7 N a0=some r):Spec Try.prog 77 [] [.agg (F3 a0)] (.tup [.own 0,.agg (bM7 r.2)]) [(0,.row 1 (List.map J8 r.1) 3)] [0]:=by
 refine Spec.of D9 Try.func77 rfl Try.ntmps77 (by kernel_rfl) rfl rfl rfl fun Γ hn=>?_
 unfold Q7 at h
 refine j5 hn ?_
 refine j5 hn ?_
 refine y8 (fun _=>?_)
 obtain ⟨hg2,h⟩:=O1 h
 refine mkM (enc:=J8) (x:=(0:Int)) hg2 (by repeat (first|exact trivial|exact rfl|(refine And.intro ?_ ?_))) ?_
 refine j4.seqQ fun _ A0 _ _=>?_
 refine j5 hn ?_
 refine y8 (fun _=>?_)
 refine j4.rng 21 rfl (fun hrn=>?_)
 obtain ⟨o8,h9,h⟩:=j6 h
 refine jk (ι:={ s // o8=s }) hn (fun s=>[]) (fun s=>[(19,.row 1 (List.map J8 s.1) 3)]) [(1,_),(3,_),(4,_)] [(1,_),(3,_)] (fun _ A1 _ _=>?_) ?_
 ·refine j4.blkQ fun _ _ E2 _ _=>?_
  refine lq (ι:={ q:(Nat×Nat×(List Int)) // q.1=(((List.replicate (a0.code.length:Int).toNat (0:Int)).length:Int) - (q.2.1:Int)).toNat∧I5 N q.1 q.2.1 q.2.2=some o8 }) hn (fun q=>[(22,.int (q.1.2.1:Int))]) (fun q=>[(19,.row 1 (List.map J8 q.1.2.2) 3)]) (fun q=>q.1.1) [(1,_),(3,_),(4,_),(21,_)] [(1,_),(3,_)] ⟨((((List.replicate (a0.code.length:Int).toNat (0:Int)).length:Int) - ((0:Nat):Int)).toNat,0,(List.replicate (a0.code.length:Int).toNat (0:Int))),rfl,h9⟩ [] ?_
  rintro ⟨⟨n_,k4,v5⟩,hd11,h9⟩ _ A3 X3 _
  replace hd11:n_=(((List.replicate (a0.code.length:Int).toNat (0:Int)).length:Int) - (k4:Int)).toNat:=hd11
  rcases n_ with _|n12
  ·have hlt15:=bO2 hd11
   replace h9:=(I5.eq_1 _ _ _).symm.trans h9
   refine j5 hn ?_
   refine j4.seqQ fun _ _ X4 _=>?_
   refine l9 hn ?_
   refine d9 hlt15 ?_
   refine H8 hn ?_
   refine X4 _ _ _ ?_
   refine X3 _ _ _ ?_
   refine E2 _ _ ?_
   refine A1 _ _ ?_
   exact jn ⟨_,sj h9⟩ []
  ·obtain ⟨hd2,hlt15⟩:=bH7 hd11
   replace h9:=(I5.eq_2 _ _ _ _).symm.trans h9
   refine j5 hn ?_
   refine j4.seqQ fun _ A5 _ _=>?_
   refine l9 hn ?_
   refine j3 hlt15 ?_
   refine q9 hn ?_
   refine A5 _ _ ?_
   refine j4.seqQ fun _ A6 _ _=>?_
   refine j4.blkQ fun _ A7 _ _ _=>?_
   refine j5 hn ?_
   refine u6 hn ?_
   obtain ⟨x16,hx17,h9⟩:=j6 h9
   refine aH3 hx17 ?_
   refine ldM (F6 hx17).2 ?_
   refine Exists.intro (List.map J8 (v5.set ((k4:Int).toNat) (-1:Int))) (And.intro (aY9 (F6 hx17).2 (by repeat (first|exact trivial|exact rfl|(refine And.intro ?_ ?_)))) ?_)
   refine A7 _ _ ?_
   refine A6 _ _ ?_
   refine u6 hn ?_
   refine Or.inl (And.intro (bY3 hlt15 hrn) ?_)
   refine A3 _ _ ?_
   exact jn ⟨(n12,k4+1,(v5.set ((k4:Int).toNat) (-1:Int))),hd2,h9⟩ [] (by show n12 < n12+1; omega)
 rintro ⟨v7,hv_⟩
 replace hv_:=hv_.symm
 subst hv_
 refine A0 _ _ ?_
 refine j5 hn ?_
 refine Exists.intro (List.map J8 [(0:Int)]) (And.intro (by repeat (first|exact trivial|exact rfl|(refine And.intro ?_ ?_))) ?_)
 refine Exists.intro (List.map J8 [(0:Int)]) (And.intro (by repeat (first|exact trivial|exact rfl|(refine And.intro ?_ ?_))) ?_)
 refine j4.seqQ fun _ A8 _ R8=>?_
 refine j5 hn ?_
 obtain ⟨o28,h29,h⟩:=j6 h
 refine jk (ι:={ s // o28=G8.next s }) hn (fun s=>[]) (fun s=>[(19,.row 1 (List.map J8 s.1) 3)]) [(3,_),(4,_)] [(3,_)] (fun _ A9 _ R9=>?_) ?_
 ·refine j4.blkQ fun _ _ E10 _ R10=>?_
  refine lq (ι:={ q:(Nat×(List Int)×(List Int)×(List Int)×Int) // I4 N a0 q.1 q.2.1 q.2.2.1 q.2.2.2.1 q.2.2.2.2=some o28 }) hn (fun q=>[(8,.int q.1.2.2.2.2)]) (fun q=>[(19,.row 1 (List.map J8 q.1.2.1) 3),(29,.row 1 (List.map J8 q.1.2.2.1) 3),(30,.row 1 (List.map J8 q.1.2.2.2.1) 3)]) (fun q=>q.1.1) [(1,_),(3,_),(4,_),(6,_),(7,_)] [(1,_),(3,_)] ⟨(N,v7,[(0:Int)],[(0:Int)],(0:Int)),h29⟩ [] ?_
  rintro ⟨⟨n_,v19,v20,v21,v22⟩,h29⟩ _ A11 X11 R11
  rcases n_ with _|n32
  ·rw [I4.eq_1] at h29
   cases h29
  ·replace h29:=(I4.eq_2 _ _ _ _ _ _ _).symm.trans h29
   refine j4.seqQ fun _ A12 X12 _=>?_
   refine j5 hn ?_
   refine y8 (fun _=>?_)
   refine l9 hn ?_
   refine l5 h29 (fun hb34 h29=>?_) (fun hb34 h29=>?_)
   ·refine q9 hn ?_
    refine A12 _ _ ?_
    refine j4.seqQ fun _ A13 _ R13=>?_
    obtain ⟨o39,h38,h29⟩:=j6 h29
    refine jk (ι:={ s // o39=G8.next s }) hn (fun s=>[]) (fun s=>[(19,.row 1 (List.map J8 s.1.1) 3),(29,.row 1 (List.map J8 s.1.2.1) 3),(30,.row 1 (List.map J8 s.1.2.2) 3)]) [(1,_),(3,_),(4,_),(6,_),(7,_),(8,_)] [(1,_),(3,_)] (fun _ A14 _ R14=>?_) ?_
    ·refine j4.blkQ fun _ A15 E15 _ R15=>?_
     refine j4.seqQ fun _ A16 _ _=>?_
     refine god hn (by kernel_rfl) ?_
     obtain ⟨x40,hx41,h38⟩:=j6 h38
     refine aH3 hx41 ?_
     refine ldM (F6 hx41).2 ?_
     obtain ⟨x42,hx43,h38⟩:=j6 h38
     refine aH3 hx43 ?_
     refine ldM (F6 hx43).2 ?_
     refine A16 _ _ ?_
     refine j4.seqQ fun _ A17 _ R17=>?_
     refine j4.seqQ fun _ A18 _ _=>?_
     obtain ⟨o46,h45,h38⟩:=j6 h38
     refine jk (ι:={ s // o46=s }) hn (fun s=>[(53,.bool s.1)]) (fun s=>[]) [(1,_),(3,_),(4,_),(6,_),(7,_),(8,_),(9,_),(10,_)] [(1,_),(3,_),(19,_),(29,_),(30,_)] (fun _ A19 _ _=>?_) ?_
     ·refine kp [(1,_),(3,_),(4,_),(6,_),(7,_),(8,_),(9,_),(10,_)] [(1,_),(3,_),(19,_),(29,_),(30,_)] ?_
      refine u6 hn ?_
      refine y8 (fun _=>?_)
      refine l5 h45 (fun hb48 h45=>?_) (fun hb48 h45=>?_)
      ·refine j3 hb48 ?_
       refine j3 hb48 ?_
       refine A19 _ _ ?_
       exact jn ⟨_,sj h45⟩ []
      refine d9 hb48 ?_
      refine d9 hb48 ?_
      refine A19 _ _ ?_
      exact jn ⟨_,sj h45⟩ []
     rintro ⟨v44,hv_⟩
     replace hv_:=hv_.symm
     subst hv_
     refine A18 _ _ ?_
     refine l9 hn ?_
     refine l5 h38 (fun hb49 h38=>?_) (fun hb49 h38=>?_)
     ·refine j4.seqQ fun _ A20 _ _=>?_
      refine god hn (by kernel_rfl) ?_
      refine y8 (fun _=>?_)
      refine A20 _ _ ?_
      refine j4.nilrow 2 202 1 3 rfl rfl rfl ?_
      refine got hn ?_
      refine R17 _ _ ?_
      refine R15 _ _ ?_
      refine R14 _ _ ?_
      refine R13 _ _ ?_
      refine R11 _ _ ?_
      refine R10 _ _ ?_
      refine R9 _ _ ?_
      refine R8 _ _ ?_
      obtain rfl:=Option.some.inj h38
      obtain rfl:=Option.some.inj h29
      obtain rfl:=Option.some.inj h
      exact ⟨[(0,202)],_,fm⟩
     refine q9 hn ?_
     refine A17 _ _ ?_
     refine j4.seqQ fun _ A21 X21 R21=>?_
     refine j5 hn ?_
     obtain ⟨x51,hx52,h38⟩:=j6 h38
     refine aH3 hx52 ?_
     refine ldM (F6 hx52).2 ?_
     refine l9 hn ?_
     refine l5 h38 (fun hb53 h38=>?_) (fun hb53 h38=>?_)
     ·refine j4.seqQ fun _ A22 _ R22=>?_
      refine j5 hn ?_
      obtain ⟨x54,hx55,h38⟩:=j6 h38
      refine aH3 hx55 ?_
      refine ldM (F6 hx55).2 ?_
      refine l9 hn ?_
      refine l5 h38 (fun hb56 h38=>?_) (fun hb56 h38=>?_)
      ·refine kp [(3,_),(9,_)] [(3,_)] ?_
       refine j5 hn ?_
       refine j4.nilrow 2 202 1 3 rfl rfl rfl ?_
       refine got hn ?_
       refine R22 _ _ ?_
       refine R21 _ _ ?_
       refine R15 _ _ ?_
       refine R14 _ _ ?_
       refine R13 _ _ ?_
       refine R11 _ _ ?_
       refine R10 _ _ ?_
       refine R9 _ _ ?_
       refine R8 _ _ ?_
       obtain rfl:=Option.some.inj h38
       obtain rfl:=Option.some.inj h29
       obtain rfl:=Option.some.inj h
       exact ⟨[(0,202)],_,fm⟩
      refine q9 hn ?_
      refine A22 _ _ ?_
      refine H8 hn ?_
      refine X21 _ _ _ ?_
      refine E15 _ _ ?_
      refine A14 _ _ ?_
      exact jn ⟨_,sj h38⟩ []
     refine q9 hn ?_
     refine A21 _ _ ?_
     refine j5 hn ?_
     obtain ⟨x57,hx58,h38⟩:=j6 h38
     refine aH3 hx58 ?_
     refine ldM (F6 hx58).2 ?_
     refine Exists.intro (List.map J8 (v19.set x40.toNat x42)) (And.intro (aY9 (F6 hx58).2 (by repeat (first|exact trivial|exact rfl|(refine And.intro ?_ ?_)))) ?_)
     refine kp [(1,_),(3,_),(4,_),(6,_),(7,_),(8,_),(9,_),(10,_)] [(1,_),(3,_),(19,_),(29,_),(30,_)] ?_
     refine j5 hn ?_
     obtain ⟨x59,hx60,h38⟩:=j6 h38
     refine Q3 hx60 ?_
     obtain ⟨r61,hr62,h38⟩:=j6 h38
     show p9 Try.prog _ _ _ _
     refine cA ((bD9 N x59 x40 r61 hr62).sw 0 82) ?_
     refine j4.seqQ fun _ A23 _ R23=>?_
     refine j4.seqQ fun _ A24 _ _=>?_
     obtain ⟨o65,h64,h38⟩:=j6 h38
     refine jk (ι:={ s // o65=s }) hn (fun s=>[(101,.bool s.1)]) (fun s=>[]) [(1,_),(3,_),(4,_),(6,_),(7,_),(8,_),(9,_),(10,_),(12,_),(13,_)] [(1,_),(3,_),(19,_),(29,_),(30,_),(82,_)] (fun _ A25 _ _=>?_) ?_
     ·refine kp [(1,_),(3,_),(4,_),(6,_),(7,_),(8,_),(9,_),(10,_),(11,_),(12,_),(13,_)] [(1,_),(3,_),(19,_),(29,_),(30,_),(82,_)] ?_
      refine u6 hn ?_
      refine l5 h64 (fun hb66 h64=>?_) (fun hb66 h64=>?_)
      ·refine j3 hb66 ?_
       refine j3 hb66 ?_
       refine j3 hb66 ?_
       refine j3 hb66 ?_
       refine j3 hb66 ?_
       refine j3 hb66 ?_
       refine j3 hb66 ?_
       refine j3 hb66 ?_
       refine j3 hb66 ?_
       refine A25 _ _ ?_
       exact jn ⟨_,sj h64⟩ []
      refine d9 hb66 ?_
      refine d9 hb66 ?_
      refine d9 hb66 ?_
      obtain ⟨x67,hx68,h64⟩:=j6 h64
      refine Q3 hx68 ?_
      refine d9 hb66 ?_
      refine d9 hb66 ?_
      refine d9 hb66 ?_
      refine d9 hb66 ?_
      refine l5 h64 (fun hb69 h64=>?_) (fun hb69 h64=>?_)
      ·refine j3 hb69 ?_
       refine d9 hb66 ?_
       refine j3 hb69 ?_
       refine d9 hb66 ?_
       refine A25 _ _ ?_
       exact jn ⟨_,sj h64⟩ []
      refine d9 hb69 ?_
      refine d9 hb66 ?_
      refine d9 hb69 ?_
      refine d9 hb66 ?_
      refine A25 _ _ ?_
      exact jn ⟨_,sj h64⟩ []
     rintro ⟨v63,hv_⟩
     replace hv_:=hv_.symm
     subst hv_
     refine A24 _ _ ?_
     refine l9 hn ?_
     refine l5 h38 (fun hb70 h38=>?_) (fun hb70 h38=>?_)
     ·refine j5 hn ?_
      refine j4.nilrow 2 202 1 3 rfl rfl rfl ?_
      refine got hn ?_
      refine R23 _ _ ?_
      refine R15 _ _ ?_
      refine R14 _ _ ?_
      refine R13 _ _ ?_
      refine R11 _ _ ?_
      refine R10 _ _ ?_
      refine R9 _ _ ?_
      refine R8 _ _ ?_
      obtain rfl:=Option.some.inj h38
      obtain rfl:=Option.some.inj h29
      obtain rfl:=Option.some.inj h
      exact ⟨[(0,202)],_,fm⟩
     refine q9 hn ?_
     refine A23 _ _ ?_
     refine j4.seqQ fun _ A26 _ R26=>?_
     refine j5 hn ?_
     refine Or.inr ?_
     refine l9 hn ?_
     refine l5 h38 (fun hb71 h38=>?_) (fun hb71 h38=>?_)
     ·refine j5 hn ?_
      refine j4.nilrow 2 202 1 3 rfl rfl rfl ?_
      refine got hn ?_
      refine R26 _ _ ?_
      refine R15 _ _ ?_
      refine R14 _ _ ?_
      refine R13 _ _ ?_
      refine R11 _ _ ?_
      refine R10 _ _ ?_
      refine R9 _ _ ?_
      refine R8 _ _ ?_
      obtain rfl:=Option.some.inj h38
      obtain rfl:=Option.some.inj h29
      obtain rfl:=Option.some.inj h
      exact ⟨[(0,202)],_,fm⟩
     refine q9 hn ?_
     refine A26 _ _ ?_
     refine j5 hn ?_
     refine y8 (fun hl72=>?_)
     obtain ⟨o80,h81,h38⟩:=j6 h38
     refine jk (ι:={ s // o80=s }) hn (fun s=>[]) (fun s=>[(29,.row 1 (List.map J8 s.1.1) 3),(30,.row 1 (List.map J8 s.1.2) 3)]) [(1,_),(3,_),(4,_),(6,_),(7,_),(8,_)] [(1,_),(3,_),(19,_)] (fun _ A27 _ _=>?_) ?_
     ·refine j4.blkQ fun _ _ E28 _ _=>?_
      refine lq (ι:={ q:((List Int)×Nat×(List Int)×(List Int)) // q.1=r61.2.2.drop q.2.1∧I6 N x42 r61 q.1 q.2.1 q.2.2.1 q.2.2.2=some o80 }) hn (fun q=>[(112,.int (q.1.2.1:Int))]) (fun q=>[(29,.row 1 (List.map J8 q.1.2.2.1) 3),(30,.row 1 (List.map J8 q.1.2.2.2) 3)]) (fun q=>q.1.1.length) [(1,_),(3,_),(4,_),(6,_),(7,_),(8,_),(10,_),(12,_),(110,_),(111,_)] [(1,_),(3,_),(19,_),(82,_)] ⟨(r61.2.2,0,v20,v21),rfl,h81⟩ [] ?_
      rintro ⟨⟨rest_,k73,v74,v75⟩,hd83,h81⟩ _ A29 X29 _
      replace hd83:rest_=r61.2.2.drop k73:=hd83
      rcases rest_ with _|⟨x85,rest82⟩
      ·have hlt87:=J7 hd83
       replace h81:=(I6.eq_1 _ _ _ _ _ _).symm.trans h81
       refine j5 hn ?_
       refine j4.seqQ fun _ _ X30 _=>?_
       refine l9 hn ?_
       refine d9 hlt87 ?_
       refine H8 hn ?_
       refine X30 _ _ _ ?_
       refine X29 _ _ _ ?_
       refine E28 _ _ ?_
       refine A27 _ _ ?_
       exact jn ⟨_,sj h81⟩ []
      ·obtain ⟨hx86,hd2,hlt87⟩:=D5 hd83
       replace h81:=(I6.eq_2 _ _ _ _ _ _ _ _).symm.trans h81
       refine j5 hn ?_
       refine j4.seqQ fun _ A31 _ _=>?_
       refine l9 hn ?_
       refine j3 hlt87 ?_
       refine q9 hn ?_
       refine A31 _ _ ?_
       refine j4.seqQ fun _ A32 _ _=>?_
       refine j4.blkQ fun _ A33 _ _ _=>?_
       refine j5 hn ?_
       obtain ⟨x88,hx89,h81⟩:=j6 h81
       refine aH3 hx89 ?_
       refine ldM (F6 hx89).2 ?_
       refine u6 hn ?_
       refine Exists.intro (List.map J8 [x88]) (And.intro (by repeat (first|exact trivial|exact rfl|(refine And.intro ?_ ?_))) ?_)
       obtain ⟨hg90,h81⟩:=O1 h81
       refine aO0 (l2:=[x88]) hg90 (F9 _) ?_
       refine Or.inr ?_
       refine Exists.intro (List.map J8 [(wr (x42+r61.2.1))]) (And.intro (by repeat (first|exact trivial|exact rfl|(refine And.intro ?_ ?_))) ?_)
       obtain ⟨hg91,h81⟩:=O1 h81
       refine aO0 (l2:=[(wr (x42+r61.2.1))]) hg91 (F9 _) ?_
       refine A33 _ _ ?_
       refine A32 _ _ ?_
       refine kp [(1,_),(3,_),(4,_),(6,_),(7,_),(8,_),(10,_),(12,_),(110,_),(111,_),(112,_)] [(1,_),(3,_),(19,_),(82,_),(119,_),(125,_)] ?_
       refine u6 hn ?_
       refine Or.inl (And.intro (Z5 hx86 hl72) ?_)
       refine A29 _ _ ?_
       exact jn ⟨(rest82,k73+1,(v74++[x88]),(v75++[(wr (x42+r61.2.1))])),hd2,h81⟩ [(29,119),(30,125)] (by show rest82.length < rest82.length+1; omega)
     rintro ⟨⟨v78,v79⟩,rfl⟩
     refine A15 _ _ ?_
     refine A14 _ _ ?_
     exact jn ⟨_,sj h38⟩ []
    rintro ⟨⟨v35,v36,v37⟩,rfl⟩
    refine A13 _ _ ?_
    refine u6 hn ?_
    refine Or.inr ?_
    refine A11 _ _ ?_
    exact jn ⟨(n32,v35,v36,v37,(wr (v22+(1:Int)))),h29⟩ [] (by show n32 < n32+1; omega)
   refine H8 hn ?_
   refine X12 _ _ _ ?_
   refine X11 _ _ _ ?_
   refine E10 _ _ ?_
   refine A9 _ _ ?_
   exact jn ⟨_,sj h29⟩ []
 rintro ⟨v27,rfl⟩
 refine A8 _ _ ?_
 refine j5 hn ?_
 refine got hn ?_
 obtain rfl:=Option.some.inj h
 exact ⟨[(0,19)],_,fm⟩

/- qcref1.Check -/
set_option maxRecDepth 100000 in
set_option maxHeartbeats 8000000 in
theorem bA7 (N:Nat) (a0:Wd) (a1:Int) (a2:Me) (r:K3) (h:Q8 N a0 a1 a2=some r):Spec Try.prog 44 [] [.agg (eWd a0),.int a1,.agg (F3 a2)] (.agg (bM7 r)) [] []:=by
 refine Spec.of D9 Try.func44 rfl Try.ntmps44 (by kernel_rfl) rfl rfl rfl fun Γ hn=>?_
 unfold Q8 at h
 refine j5 hn ?_
 refine j4.seqQ fun _ A0 _ R0=>?_
 refine j4.seqQ fun _ A1 _ _=>?_
 obtain ⟨o3,h2,h⟩:=j6 h
 refine jk (ι:={ s // o3=s }) hn (fun s=>[(20,.bool s.1)]) (fun s=>[]) [(1,_),(3,_),(5,_),(6,_)] [(3,_),(5,_),(6,_)] (fun _ A2 _ _=>?_) ?_
 ·refine u6 hn ?_
  refine l5 h2 (fun hb4 h2=>?_) (fun hb4 h2=>?_)
  ·refine j3 hb4 ?_
   refine j3 hb4 ?_
   refine j3 hb4 ?_
   refine j3 hb4 ?_
   refine j3 hb4 ?_
   refine A2 _ _ ?_
   exact jn ⟨_,sj h2⟩ []
  refine d9 hb4 ?_
  refine d9 hb4 ?_
  refine d9 hb4 ?_
  refine y8 (fun _=>?_)
  refine d9 hb4 ?_
  refine d9 hb4 ?_
  refine A2 _ _ ?_
  exact jn ⟨_,sj h2⟩ []
 rintro ⟨v1,hv_⟩
 replace hv_:=hv_.symm
 subst hv_
 refine A1 _ _ ?_
 refine l9 hn ?_
 refine l5 h (fun hb6 h=>?_) (fun hb6 h=>?_)
 ·refine j5 hn ?_
  refine got hn ?_
  refine R0 _ _ ?_
  obtain rfl:=Option.some.inj h
  exact ⟨[],_,fm⟩
 refine q9 hn ?_
 refine A0 _ _ ?_
 refine j4.seqQ fun _ A3 _ R3=>?_
 refine j5 hn ?_
 obtain ⟨r7,hr8,h⟩:=j6 h
 show p9 Try.prog _ _ _ _
 refine cA (aH5 N a2.name r7 hr8) ?_
 refine l9 hn ?_
 refine l5 h (fun hb9 h=>?_) (fun hb9 h=>?_)
 ·refine j5 hn ?_
  refine got hn ?_
  refine R3 _ _ ?_
  obtain rfl:=Option.some.inj h
  exact ⟨[],_,fm⟩
 refine q9 hn ?_
 refine A3 _ _ ?_
 refine j4.seqQ fun _ A4 _ R4=>?_
 refine j4.seqQ fun _ A5 _ _=>?_
 obtain ⟨o12,h11,h⟩:=j6 h
 refine jk (ι:={ s // o12=s }) hn (fun s=>[(44,.bool s.1)]) (fun s=>[]) [(1,_),(3,_),(5,_),(6,_)] [(3,_),(5,_),(6,_)] (fun _ A6 _ _=>?_) ?_
 ·refine u6 hn ?_
  refine l5 h11 (fun hb13 h11=>?_) (fun hb13 h11=>?_)
  ·refine j3 hb13 ?_
   refine j3 hb13 ?_
   refine j3 hb13 ?_
   refine A6 _ _ ?_
   exact jn ⟨_,sj h11⟩ []
  refine d9 hb13 ?_
  refine d9 hb13 ?_
  refine d9 hb13 ?_
  refine l5 h11 (fun hb14 h11=>?_) (fun hb14 h11=>?_)
  ·refine j3 hb14 ?_
   refine j3 hb14 ?_
   refine j3 hb14 ?_
   refine A6 _ _ ?_
   exact jn ⟨_,sj h11⟩ []
  refine d9 hb14 ?_
  refine d9 hb14 ?_
  refine d9 hb14 ?_
  refine l5 h11 (fun hb15 h11=>?_) (fun hb15 h11=>?_)
  ·refine j3 hb15 ?_
   refine j3 hb15 ?_
   refine j3 hb15 ?_
   refine A6 _ _ ?_
   exact jn ⟨_,sj h11⟩ []
  refine d9 hb15 ?_
  refine d9 hb15 ?_
  refine d9 hb15 ?_
  refine A6 _ _ ?_
  exact jn ⟨_,sj h11⟩ []
 rintro ⟨v10,hv_⟩
 replace hv_:=hv_.symm
 subst hv_
 refine A5 _ _ ?_
 refine l9 hn ?_
 refine l5 h (fun hb16 h=>?_) (fun hb16 h=>?_)
 ·refine j5 hn ?_
  refine got hn ?_
  refine R4 _ _ ?_
  obtain rfl:=Option.some.inj h
  exact ⟨[],_,fm⟩
 refine q9 hn ?_
 refine A4 _ _ ?_
 refine j4.seqQ fun _ A7 _ R7=>?_
 refine j5 hn ?_
 refine l9 hn ?_
 refine l5 h (fun hb17 h=>?_) (fun hb17 h=>?_)
 ·refine j5 hn ?_
  refine got hn ?_
  refine R7 _ _ ?_
  obtain rfl:=Option.some.inj h
  exact ⟨[],_,fm⟩
 refine q9 hn ?_
 refine A7 _ _ ?_
 refine j4.seqQ fun _ A8 _ R8=>?_
 refine j4.seqQ fun _ A9 _ _=>?_
 obtain ⟨o20,h19,h⟩:=j6 h
 refine jk (ι:={ s // o20=s }) hn (fun s=>[(59,.bool s.1)]) (fun s=>[]) [(1,_),(3,_),(5,_),(6,_)] [(3,_),(5,_),(6,_)] (fun _ A10 _ _=>?_) ?_
 ·refine u6 hn ?_
  refine y8 (fun _=>?_)
  refine l5 h19 (fun hb22 h19=>?_) (fun hb22 h19=>?_)
  ·refine j3 hb22 ?_
   refine j3 hb22 ?_
   refine j3 hb22 ?_
   refine j3 hb22 ?_
   refine A10 _ _ ?_
   exact jn ⟨_,sj h19⟩ []
  refine d9 hb22 ?_
  refine d9 hb22 ?_
  refine y8 (fun _=>?_)
  refine d9 hb22 ?_
  refine d9 hb22 ?_
  refine A10 _ _ ?_
  exact jn ⟨_,sj h19⟩ []
 rintro ⟨v18,hv_⟩
 replace hv_:=hv_.symm
 subst hv_
 refine A9 _ _ ?_
 refine l9 hn ?_
 refine l5 h (fun hb24 h=>?_) (fun hb24 h=>?_)
 ·refine j5 hn ?_
  refine got hn ?_
  refine R8 _ _ ?_
  obtain rfl:=Option.some.inj h
  exact ⟨[],_,fm⟩
 refine q9 hn ?_
 refine A8 _ _ ?_
 refine j4.seqQ fun _ A11 _ R11=>?_
 refine j5 hn ?_
 refine y8 (fun hl25=>?_)
 obtain ⟨o27,h28,h⟩:=j6 h
 refine jk (ι:={ s // o27=G8.next s }) hn (fun s=>[]) (fun s=>[]) [(5,_),(6,_)] [(5,_),(6,_)] (fun _ A12 _ R12=>?_) ?_
 ·refine j4.blkQ fun _ _ E13 _ R13=>?_
  refine lq (ι:={ q:((List Ins)×Nat) // q.1=a2.code.drop q.2∧N9 N a0 a1 a2 q.1 q.2=some o27 }) hn (fun q=>[(64,.int (q.1.2:Int))]) (fun q=>[]) (fun q=>q.1.1.length) [(1,_),(3,_),(5,_),(6,_),(62,_),(63,_)] [(3,_),(5,_),(6,_)] ⟨(a2.code,0),rfl,h28⟩ [] ?_
  rintro ⟨⟨rest_,k26⟩,hd30,h28⟩ _ A14 X14 R14
  replace hd30:rest_=a2.code.drop k26:=hd30
  rcases rest_ with _|⟨x32,rest29⟩
  ·have hlt34:=J7 hd30
   replace h28:=(N9.eq_1 _ _ _ _ _).symm.trans h28
   refine j5 hn ?_
   refine j4.seqQ fun _ _ X15 _=>?_
   refine l9 hn ?_
   refine d9 hlt34 ?_
   refine H8 hn ?_
   refine X15 _ _ _ ?_
   refine X14 _ _ _ ?_
   refine E13 _ _ ?_
   refine A12 _ _ ?_
   exact jn ⟨_,sj h28⟩ []
  ·obtain ⟨hx33,hd2,hlt34⟩:=D5 hd30
   replace h28:=(N9.eq_2 _ _ _ _ _ _ _).symm.trans h28
   refine j5 hn ?_
   refine j4.seqQ fun _ A16 _ _=>?_
   refine l9 hn ?_
   refine j3 hlt34 ?_
   refine q9 hn ?_
   refine A16 _ _ ?_
   refine j4.seqQ fun _ A17 _ R17=>?_
   refine j4.blkQ fun _ A18 _ _ R18=>?_
   refine j5 hn ?_
   refine aB2 hx33 ?_
   refine j5 hn ?_
   obtain ⟨r35,hr36,h28⟩:=j6 h28
   show p9 Try.prog _ _ _ _
   refine cA (aX8 N a0 a1 a2 x32 r35 hr36) ?_
   refine kp [(1,_),(3,_),(5,_),(6,_),(7,_),(9,_),(62,_),(63,_),(64,_)] [(3,_),(5,_),(6,_)] ?_
   refine j5 hn ?_
   refine l9 hn ?_
   refine l5 h28 (fun hb37 h28=>?_) (fun hb37 h28=>?_)
   ·refine j5 hn ?_
    refine got hn ?_
    refine R18 _ _ ?_
    refine R17 _ _ ?_
    refine R14 _ _ ?_
    refine R13 _ _ ?_
    refine R12 _ _ ?_
    refine R11 _ _ ?_
    obtain rfl:=Option.some.inj h28
    obtain rfl:=Option.some.inj h
    exact ⟨[],_,fm⟩
   refine q9 hn ?_
   refine A18 _ _ ?_
   refine A17 _ _ ?_
   refine u6 hn ?_
   refine Or.inl (And.intro (Z5 hx33 hl25) ?_)
   refine A14 _ _ ?_
   exact jn ⟨(rest29,k26+1),hd2,h28⟩ [] (by show rest29.length < rest29.length+1; omega)
 rintro ⟨⟨⟩,rfl⟩
 refine A11 _ _ ?_
 refine j5 hn ?_
 obtain ⟨r38,hr39,h⟩:=j6 h
 show p9 Try.prog _ _ _ _
 refine cA ((aY0 N a2 r38 hr39).sw 0 82) ?_
 refine j5 hn ?_
 refine got hn ?_
 obtain rfl:=Option.some.inj h
 exact ⟨[],_,fm⟩

/- qcref1.Wrong -/
set_option maxRecDepth 100000 in
set_option maxHeartbeats 8000000 in
theorem bA0 (N:Nat) (a0:V) (a1:Int) (r:Int) (h:aA8 N a0 a1=some r):Spec Try.prog 45 [] [.agg (eV a0),.int a1] (.int r) [] []:=by
 refine Spec.of D9 Try.func45 rfl Try.ntmps45 (by kernel_rfl) rfl rfl rfl fun Γ hn=>?_
 unfold aA8 at h
 refine j5 hn ?_
 refine j4.seqQ fun _ A0 _ R0=>?_
 refine j4.seqQ fun _ A1 _ _=>?_
 obtain ⟨o3,h2,h⟩:=j6 h
 refine jk (ι:={ s // o3=s }) hn (fun s=>[(12,.bool s.1)]) (fun s=>[]) [(1,_),(2,_)] [(2,_)] (fun _ A2 _ _=>?_) ?_
 ·refine u6 hn ?_
  refine l5 h2 (fun hb4 h2=>?_) (fun hb4 h2=>?_)
  ·refine j3 hb4 ?_
   refine j3 hb4 ?_
   refine j3 hb4 ?_
   refine A2 _ _ ?_
   exact jn ⟨_,sj h2⟩ []
  refine d9 hb4 ?_
  refine d9 hb4 ?_
  refine d9 hb4 ?_
  refine A2 _ _ ?_
  exact jn ⟨_,sj h2⟩ []
 rintro ⟨v1,hv_⟩
 replace hv_:=hv_.symm
 subst hv_
 refine A1 _ _ ?_
 refine l9 hn ?_
 refine l5 h (fun hb5 h=>?_) (fun hb5 h=>?_)
 ·refine j5 hn ?_
  refine got hn ?_
  refine R0 _ _ ?_
  obtain rfl:=Option.some.inj h
  exact ⟨[],_,fm⟩
 refine q9 hn ?_
 refine A0 _ _ ?_
 refine j4.seqQ fun _ A3 _ R3=>?_
 refine j4.seqQ fun _ A4 _ _=>?_
 obtain ⟨o8,h7,h⟩:=j6 h
 refine jk (ι:={ s // o8=s }) hn (fun s=>[(20,.bool s.1)]) (fun s=>[]) [(1,_),(2,_)] [(2,_)] (fun _ A5 _ _=>?_) ?_
 ·refine u6 hn ?_
  refine l5 h7 (fun hb9 h7=>?_) (fun hb9 h7=>?_)
  ·refine j3 hb9 ?_
   refine j3 hb9 ?_
   refine j3 hb9 ?_
   refine A5 _ _ ?_
   exact jn ⟨_,sj h7⟩ []
  refine d9 hb9 ?_
  refine d9 hb9 ?_
  refine d9 hb9 ?_
  refine A5 _ _ ?_
  exact jn ⟨_,sj h7⟩ []
 rintro ⟨v6,hv_⟩
 replace hv_:=hv_.symm
 subst hv_
 refine A4 _ _ ?_
 refine l9 hn ?_
 refine l5 h (fun hb10 h=>?_) (fun hb10 h=>?_)
 ·refine j5 hn ?_
  refine got hn ?_
  refine R3 _ _ ?_
  obtain rfl:=Option.some.inj h
  exact ⟨[],_,fm⟩
 refine q9 hn ?_
 refine A3 _ _ ?_
 refine j4.seqQ fun _ A6 _ R6=>?_
 refine j4.seqQ fun _ A7 _ _=>?_
 obtain ⟨o13,h12,h⟩:=j6 h
 refine jk (ι:={ s // o13=s }) hn (fun s=>[(33,.bool s.1)]) (fun s=>[]) [(1,_),(2,_)] [(2,_)] (fun _ A8 _ _=>?_) ?_
 ·refine u6 hn ?_
  refine l5 h12 (fun hb14 h12=>?_) (fun hb14 h12=>?_)
  ·refine j3 hb14 ?_
   refine j3 hb14 ?_
   refine j3 hb14 ?_
   refine l5 h12 (fun hb15 h12=>?_) (fun hb15 h12=>?_)
   ·refine j3 hb15 ?_
    refine j3 hb15 ?_
    refine j3 hb14 ?_
    refine j3 hb15 ?_
    refine j3 hb14 ?_
    refine A8 _ _ ?_
    exact jn ⟨_,sj h12⟩ []
   refine d9 hb15 ?_
   refine d9 hb15 ?_
   refine j3 hb14 ?_
   refine d9 hb15 ?_
   refine j3 hb14 ?_
   refine A8 _ _ ?_
   exact jn ⟨_,sj h12⟩ []
  refine d9 hb14 ?_
  refine d9 hb14 ?_
  refine d9 hb14 ?_
  refine d9 hb14 ?_
  refine d9 hb14 ?_
  refine A8 _ _ ?_
  exact jn ⟨_,sj h12⟩ []
 rintro ⟨v11,hv_⟩
 replace hv_:=hv_.symm
 subst hv_
 refine A7 _ _ ?_
 refine l9 hn ?_
 refine l5 h (fun hb16 h=>?_) (fun hb16 h=>?_)
 ·refine j5 hn ?_
  refine got hn ?_
  refine R6 _ _ ?_
  obtain rfl:=Option.some.inj h
  exact ⟨[],_,fm⟩
 refine q9 hn ?_
 refine A6 _ _ ?_
 refine j4.seqQ fun _ A9 _ R9=>?_
 refine j4.seqQ fun _ A10 _ _=>?_
 obtain ⟨o19,h18,h⟩:=j6 h
 refine jk (ι:={ s // o19=s }) hn (fun s=>[(47,.bool s.1)]) (fun s=>[]) [] [] (fun _ A11 _ _=>?_) ?_
 ·refine u6 hn ?_
  refine l5 h18 (fun hb20 h18=>?_) (fun hb20 h18=>?_)
  ·refine j3 hb20 ?_
   refine j3 hb20 ?_
   refine j3 hb20 ?_
   refine l5 h18 (fun hb21 h18=>?_) (fun hb21 h18=>?_)
   ·refine j3 hb21 ?_
    refine j3 hb21 ?_
    refine j3 hb21 ?_
    refine j3 hb20 ?_
    refine j3 hb21 ?_
    refine j3 hb20 ?_
    refine A11 _ _ ?_
    exact jn ⟨_,sj h18⟩ []
   refine d9 hb21 ?_
   refine d9 hb21 ?_
   refine d9 hb21 ?_
   refine j3 hb20 ?_
   refine d9 hb21 ?_
   refine j3 hb20 ?_
   refine A11 _ _ ?_
   exact jn ⟨_,sj h18⟩ []
  refine d9 hb20 ?_
  refine d9 hb20 ?_
  refine d9 hb20 ?_
  refine d9 hb20 ?_
  refine d9 hb20 ?_
  refine A11 _ _ ?_
  exact jn ⟨_,sj h18⟩ []
 rintro ⟨v17,hv_⟩
 replace hv_:=hv_.symm
 subst hv_
 refine A10 _ _ ?_
 refine l9 hn ?_
 refine l5 h (fun hb22 h=>?_) (fun hb22 h=>?_)
 ·refine j5 hn ?_
  refine got hn ?_
  refine R9 _ _ ?_
  obtain rfl:=Option.some.inj h
  exact ⟨[],_,fm⟩
 refine q9 hn ?_
 refine A9 _ _ ?_
 refine j5 hn ?_
 refine got hn ?_
 obtain rfl:=Option.some.inj h
 exact ⟨[],_,fm⟩

/- qcref1.Right -/
set_option maxRecDepth 100000 in
set_option maxHeartbeats 8000000 in
theorem bB1 (N:Nat) (a0:Wd) (r:Int) (h:aB9 N a0=some r):Spec Try.prog 13 [] [.agg (eWd a0)] (.int r) [] []:=by
 refine Spec.of D9 Try.func13 rfl Try.ntmps13 (by kernel_rfl) rfl rfl rfl fun Γ hn=>?_
 unfold aB9 at h
 refine j5 hn ?_
 refine j5 hn ?_
 obtain ⟨r1,hr2,h⟩:=j6 h
 show p9 Try.prog _ _ _ _
 refine cA (bG6 N  r1 hr2) ?_
 refine j4.seqQ fun _ A0 _ R0=>?_
 refine j4.seqQ fun _ A1 _ _=>?_
 obtain ⟨o5,h4,h⟩:=j6 h
 refine jk (ι:={ s // o5=s }) hn (fun s=>[(39,.bool s.1)]) (fun s=>[]) [(1,_),(3,_)] [(1,_),(3,_)] (fun _ A2 _ _=>?_) ?_
 ·refine u6 hn ?_
  refine y8 (fun _=>?_)
  refine l5 h4 (fun hb7 h4=>?_) (fun hb7 h4=>?_)
  ·refine j3 hb7 ?_
   refine j3 hb7 ?_
   refine j3 hb7 ?_
   refine j3 hb7 ?_
   refine A2 _ _ ?_
   exact jn ⟨_,sj h4⟩ []
  refine d9 hb7 ?_
  refine d9 hb7 ?_
  refine y8 (fun _=>?_)
  refine d9 hb7 ?_
  refine d9 hb7 ?_
  refine l5 h4 (fun hb9 h4=>?_) (fun hb9 h4=>?_)
  ·refine j3 hb9 ?_
   refine j3 hb9 ?_
   refine j3 hb9 ?_
   refine j3 hb9 ?_
   refine A2 _ _ ?_
   exact jn ⟨_,sj h4⟩ []
  refine d9 hb9 ?_
  refine d9 hb9 ?_
  refine y8 (fun _=>?_)
  refine d9 hb9 ?_
  refine d9 hb9 ?_
  refine A2 _ _ ?_
  exact jn ⟨_,sj h4⟩ []
 rintro ⟨v3,hv_⟩
 replace hv_:=hv_.symm
 subst hv_
 refine A1 _ _ ?_
 refine l9 hn ?_
 refine l5 h (fun hb11 h=>?_) (fun hb11 h=>?_)
 ·refine j5 hn ?_
  refine got hn ?_
  refine R0 _ _ ?_
  obtain rfl:=Option.some.inj h
  exact ⟨[],_,fm⟩
 refine q9 hn ?_
 refine A0 _ _ ?_
 refine j4.seqQ fun _ A3 _ R3=>?_
 refine j4.seqQ fun _ A4 _ _=>?_
 obtain ⟨o14,h13,h⟩:=j6 h
 refine jk (ι:={ s // o14=s }) hn (fun s=>[(47,.bool s.1)]) (fun s=>[]) [(1,_),(3,_)] [(1,_),(3,_)] (fun _ A5 _ _=>?_) ?_
 ·refine u6 hn ?_
  refine l5 h13 (fun hb15 h13=>?_) (fun hb15 h13=>?_)
  ·refine j3 hb15 ?_
   refine j3 hb15 ?_
   refine j3 hb15 ?_
   refine A5 _ _ ?_
   exact jn ⟨_,sj h13⟩ []
  refine d9 hb15 ?_
  refine d9 hb15 ?_
  refine d9 hb15 ?_
  refine A5 _ _ ?_
  exact jn ⟨_,sj h13⟩ []
 rintro ⟨v12,hv_⟩
 replace hv_:=hv_.symm
 subst hv_
 refine A4 _ _ ?_
 refine l9 hn ?_
 refine l5 h (fun hb16 h=>?_) (fun hb16 h=>?_)
 ·refine j5 hn ?_
  refine got hn ?_
  refine R3 _ _ ?_
  obtain rfl:=Option.some.inj h
  exact ⟨[],_,fm⟩
 refine q9 hn ?_
 refine A3 _ _ ?_
 refine j4.seqQ fun _ A6 _ R6=>?_
 refine j5 hn ?_
 refine y8 (fun hl17=>?_)
 obtain ⟨o19,h20,h⟩:=j6 h
 refine jk (ι:={ s // o19=G8.next s }) hn (fun s=>[]) (fun s=>[]) [(1,_),(3,_)] [(1,_),(3,_)] (fun _ A7 _ R7=>?_) ?_
 ·refine j4.blkQ fun _ _ E8 _ R8=>?_
  refine lq (ι:={ q:((List Cl)×Nat) // q.1=a0.classes.drop q.2∧I9 N a0 r1 q.1 q.2=some o19 }) hn (fun q=>[(51,.int (q.1.2:Int))]) (fun q=>[]) (fun q=>q.1.1.length) [(1,_),(3,_),(49,_),(50,_)] [(1,_),(3,_)] ⟨(a0.classes,0),rfl,h20⟩ [] ?_
  rintro ⟨⟨rest_,k18⟩,hd22,h20⟩ _ A9 X9 R9
  replace hd22:rest_=a0.classes.drop k18:=hd22
  rcases rest_ with _|⟨x24,rest21⟩
  ·have hlt26:=J7 hd22
   replace h20:=(I9.eq_1 _ _ _ _).symm.trans h20
   refine j5 hn ?_
   refine j4.seqQ fun _ _ X10 _=>?_
   refine l9 hn ?_
   refine d9 hlt26 ?_
   refine H8 hn ?_
   refine X10 _ _ _ ?_
   refine X9 _ _ _ ?_
   refine E8 _ _ ?_
   refine A7 _ _ ?_
   exact jn ⟨_,sj h20⟩ []
  ·obtain ⟨hx25,hd2,hlt26⟩:=D5 hd22
   replace h20:=(I9.eq_2 _ _ _ _ _ _).symm.trans h20
   refine j5 hn ?_
   refine j4.seqQ fun _ A11 _ _=>?_
   refine l9 hn ?_
   refine j3 hlt26 ?_
   refine q9 hn ?_
   refine A11 _ _ ?_
   refine j4.seqQ fun _ A12 _ R12=>?_
   refine j4.blkQ fun _ A13 _ _ R13=>?_
   refine j5 hn ?_
   refine aB2 hx25 ?_
   refine j4.seqQ fun _ A14 _ R14=>?_
   refine j4.seqQ fun _ A15 _ _=>?_
   obtain ⟨o29,h28,h20⟩:=j6 h20
   refine jk (ι:={ s // o29=s }) hn (fun s=>[(74,.bool s.1)]) (fun s=>[]) [(1,_),(3,_),(4,_),(5,_),(49,_),(50,_),(51,_)] [(1,_),(3,_),(5,_)] (fun _ A16 _ _=>?_) ?_
   ·refine kp [(1,_),(3,_),(4,_),(5,_),(49,_),(50,_),(51,_)] [(1,_),(3,_),(5,_)] ?_
    refine god hn (by kernel_rfl) ?_
    obtain ⟨r30,hr31,h28⟩:=j6 h28
    show p9 Try.prog _ _ _ _
    refine cA (aH5 N x24.name r30 hr31) ?_
    refine l5 h28 (fun hb32 h28=>?_) (fun hb32 h28=>?_)
    ·refine j3 hb32 ?_
     refine j3 hb32 ?_
     refine j3 hb32 ?_
     refine j3 hb32 ?_
     refine A16 _ _ ?_
     exact jn ⟨_,sj h28⟩ []
    refine d9 hb32 ?_
    refine d9 hb32 ?_
    refine l5 h28 (fun hb33 h28=>?_) (fun hb33 h28=>?_)
    ·refine j3 hb33 ?_
     refine j3 hb33 ?_
     refine j3 hb33 ?_
     refine j3 hb33 ?_
     refine j3 hb33 ?_
     obtain ⟨x34,hx35,h28⟩:=j6 h28
     refine Q3 hx35 ?_
     refine j3 hb33 ?_
     refine j3 hb33 ?_
     refine j3 hb33 ?_
     refine d9 hb32 ?_
     refine j3 hb33 ?_
     refine d9 hb32 ?_
     refine A16 _ _ ?_
     exact jn ⟨_,sj h28⟩ []
    refine d9 hb33 ?_
    refine d9 hb33 ?_
    refine d9 hb33 ?_
    refine d9 hb33 ?_
    refine d9 hb33 ?_
    refine d9 hb33 ?_
    refine d9 hb33 ?_
    refine d9 hb33 ?_
    refine d9 hb32 ?_
    refine d9 hb33 ?_
    refine d9 hb32 ?_
    refine A16 _ _ ?_
    exact jn ⟨_,sj h28⟩ []
   rintro ⟨v27,hv_⟩
   replace hv_:=hv_.symm
   subst hv_
   refine A15 _ _ ?_
   refine l9 hn ?_
   refine l5 h20 (fun hb36 h20=>?_) (fun hb36 h20=>?_)
   ·refine j5 hn ?_
    refine got hn ?_
    refine R14 _ _ ?_
    refine R13 _ _ ?_
    refine R12 _ _ ?_
    refine R9 _ _ ?_
    refine R8 _ _ ?_
    refine R7 _ _ ?_
    refine R6 _ _ ?_
    obtain rfl:=Option.some.inj h20
    obtain rfl:=Option.some.inj h
    exact ⟨[],_,fm⟩
   refine q9 hn ?_
   refine A14 _ _ ?_
   refine j4.seqQ fun _ A17 _ R17=>?_
   refine j5 hn ?_
   obtain ⟨hg37,h20⟩:=O1 h20
   refine b94 hg37 rfl rfl ?_
   refine y8 (fun hl38=>?_)
   obtain ⟨o40,h41,h20⟩:=j6 h20
   refine jk (ι:={ s // o40=G8.next s }) hn (fun s=>[]) (fun s=>[]) [(1,_),(3,_),(4,_),(5,_),(49,_),(50,_),(51,_)] [(1,_),(3,_),(5,_)] (fun _ A18 _ R18=>?_) ?_
   ·refine j4.blkQ fun _ _ E19 _ R19=>?_
    refine lq (ι:={ q:((List Cl)×Nat) // q.1=(a0.classes.take (k18:Int).toNat).drop q.2∧K5 N x24 q.1 q.2=some o40 }) hn (fun q=>[(80,.int (q.1.2:Int))]) (fun q=>[]) (fun q=>q.1.1.length) [(1,_),(3,_),(4,_),(5,_),(49,_),(50,_),(51,_),(78,_),(79,_)] [(1,_),(3,_),(5,_)] ⟨((a0.classes.take (k18:Int).toNat),0),rfl,h41⟩ [] ?_
    rintro ⟨⟨rest_,k39⟩,hd43,h41⟩ _ A20 X20 R20
    replace hd43:rest_=(a0.classes.take (k18:Int).toNat).drop k39:=hd43
    rcases rest_ with _|⟨x45,rest42⟩
    ·have hlt47:=J7 hd43
     replace h41:=(K5.eq_1 _ _ _).symm.trans h41
     refine j5 hn ?_
     refine j4.seqQ fun _ _ X21 _=>?_
     refine l9 hn ?_
     refine d9 hlt47 ?_
     refine H8 hn ?_
     refine X21 _ _ _ ?_
     refine X20 _ _ _ ?_
     refine E19 _ _ ?_
     refine A18 _ _ ?_
     exact jn ⟨_,sj h41⟩ []
    ·obtain ⟨hx46,hd2,hlt47⟩:=D5 hd43
     replace h41:=(K5.eq_2 _ _ _ _ _).symm.trans h41
     refine j5 hn ?_
     refine j4.seqQ fun _ A22 _ _=>?_
     refine l9 hn ?_
     refine j3 hlt47 ?_
     refine q9 hn ?_
     refine A22 _ _ ?_
     refine j4.seqQ fun _ A23 _ R23=>?_
     refine j4.blkQ fun _ A24 _ _ R24=>?_
     refine j5 hn ?_
     refine aB2 hx46 ?_
     refine j5 hn ?_
     refine l9 hn ?_
     refine l5 h41 (fun hb48 h41=>?_) (fun hb48 h41=>?_)
     ·refine kp [] [] ?_
      refine j5 hn ?_
      refine got hn ?_
      refine R24 _ _ ?_
      refine R23 _ _ ?_
      refine R20 _ _ ?_
      refine R19 _ _ ?_
      refine R18 _ _ ?_
      refine R17 _ _ ?_
      refine R13 _ _ ?_
      refine R12 _ _ ?_
      refine R9 _ _ ?_
      refine R8 _ _ ?_
      refine R7 _ _ ?_
      refine R6 _ _ ?_
      obtain rfl:=Option.some.inj h41
      obtain rfl:=Option.some.inj h20
      obtain rfl:=Option.some.inj h
      exact ⟨[],_,fm⟩
     refine q9 hn ?_
     refine A24 _ _ ?_
     refine A23 _ _ ?_
     refine kp [(1,_),(3,_),(4,_),(5,_),(49,_),(50,_),(51,_),(78,_),(79,_),(80,_)] [(1,_),(3,_),(5,_)] ?_
     refine u6 hn ?_
     refine Or.inl (And.intro (Z5 hx46 hl38) ?_)
     refine A20 _ _ ?_
     exact jn ⟨(rest42,k39+1),hd2,h41⟩ [] (by show rest42.length < rest42.length+1; omega)
   rintro ⟨⟨⟩,rfl⟩
   refine A17 _ _ ?_
   refine j5 hn ?_
   refine j4.seqQ fun _ A25 _ R25=>?_
   refine j5 hn ?_
   obtain ⟨o51,h50,h20⟩:=j6 h20
   refine jk (ι:={ s // o51=G8.next s }) hn (fun s=>[(9,.int s.1)]) (fun s=>[]) [(1,_),(3,_),(5,_),(8,_),(49,_),(50,_),(51,_)] [(1,_),(3,_),(5,_)] (fun _ A26 _ R26=>?_) ?_
   ·refine l9 hn ?_
    refine l5 h50 (fun hb52 h50=>?_) (fun hb52 h50=>?_)
    ·refine j5 hn ?_
     refine j4.seqQ fun _ A27 _ _=>?_
     refine god hn (by kernel_rfl) ?_
     obtain ⟨x53,hx54,h50⟩:=j6 h50
     refine Q3 hx54 ?_
     refine A27 _ _ ?_
     refine l9 hn ?_
     refine l5 h50 (fun hb55 h50=>?_) (fun hb55 h50=>?_)
     ·refine kp [] [] ?_
      refine j5 hn ?_
      refine got hn ?_
      refine R26 _ _ ?_
      refine R25 _ _ ?_
      refine R13 _ _ ?_
      refine R12 _ _ ?_
      refine R9 _ _ ?_
      refine R8 _ _ ?_
      refine R7 _ _ ?_
      refine R6 _ _ ?_
      obtain rfl:=Option.some.inj h50
      obtain rfl:=Option.some.inj h20
      obtain rfl:=Option.some.inj h
      exact ⟨[],_,fm⟩
     refine q9 hn ?_
     refine A26 _ _ ?_
     exact jn ⟨_,sj h50⟩ []
    refine j4.seqQ fun _ A28 _ _=>?_
    obtain ⟨o58,h57,h50⟩:=j6 h50
    refine jk (ι:={ s // o58=s }) hn (fun s=>[(119,.bool s.1)]) (fun s=>[]) [(1,_),(3,_),(5,_),(8,_),(9,_),(49,_),(50,_),(51,_)] [(1,_),(3,_),(5,_)] (fun _ A29 _ _=>?_) ?_
    ·refine u6 hn ?_
     refine l5 h57 (fun hb59 h57=>?_) (fun hb59 h57=>?_)
     ·refine j3 hb59 ?_
      refine j3 hb59 ?_
      refine j3 hb59 ?_
      refine j3 hb59 ?_
      refine A29 _ _ ?_
      exact jn ⟨_,sj h57⟩ []
     refine d9 hb59 ?_
     refine d9 hb59 ?_
     refine d9 hb59 ?_
     refine d9 hb59 ?_
     refine l5 h57 (fun hb60 h57=>?_) (fun hb60 h57=>?_)
     ·refine j3 hb60 ?_
      refine j3 hb60 ?_
      refine j3 hb60 ?_
      refine j3 hb60 ?_
      refine j3 hb60 ?_
      refine A29 _ _ ?_
      exact jn ⟨_,sj h57⟩ []
     refine d9 hb60 ?_
     refine d9 hb60 ?_
     refine d9 hb60 ?_
     refine l5 h57 (fun hb61 h57=>?_) (fun hb61 h57=>?_)
     ·refine j3 hb61 ?_
      refine j3 hb61 ?_
      refine d9 hb60 ?_
      refine j3 hb61 ?_
      refine d9 hb60 ?_
      refine A29 _ _ ?_
      exact jn ⟨_,sj h57⟩ []
     refine d9 hb61 ?_
     refine d9 hb61 ?_
     refine d9 hb60 ?_
     refine d9 hb61 ?_
     refine d9 hb60 ?_
     refine A29 _ _ ?_
     exact jn ⟨_,sj h57⟩ []
    rintro ⟨v56,hv_⟩
    replace hv_:=hv_.symm
    subst hv_
    refine A28 _ _ ?_
    refine l9 hn ?_
    refine l5 h50 (fun hb62 h50=>?_) (fun hb62 h50=>?_)
    ·refine j5 hn ?_
     refine got hn ?_
     refine R26 _ _ ?_
     refine R25 _ _ ?_
     refine R13 _ _ ?_
     refine R12 _ _ ?_
     refine R9 _ _ ?_
     refine R8 _ _ ?_
     refine R7 _ _ ?_
     refine R6 _ _ ?_
     obtain rfl:=Option.some.inj h50
     obtain rfl:=Option.some.inj h20
     obtain rfl:=Option.some.inj h
     exact ⟨[],_,fm⟩
    refine q9 hn ?_
    refine A26 _ _ ?_
    exact jn ⟨_,sj h50⟩ []
   rintro ⟨v49,rfl⟩
   refine A25 _ _ ?_
   refine j4.seqQ fun _ A30 _ _=>?_
   obtain ⟨o65,h64,h20⟩:=j6 h20
   refine jk (ι:={ s // o65=s }) hn (fun s=>[(129,.bool s.1)]) (fun s=>[]) [(1,_),(3,_),(49,_),(50,_),(51,_)] [(1,_),(3,_)] (fun _ A31 _ _=>?_) ?_
   ·refine u6 hn ?_
    refine l5 h64 (fun hb66 h64=>?_) (fun hb66 h64=>?_)
    ·refine j3 hb66 ?_
     refine j3 hb66 ?_
     refine j3 hb66 ?_
     refine j3 hb66 ?_
     refine A31 _ _ ?_
     exact jn ⟨_,sj h64⟩ []
    refine d9 hb66 ?_
    refine d9 hb66 ?_
    refine d9 hb66 ?_
    refine d9 hb66 ?_
    refine A31 _ _ ?_
    exact jn ⟨_,sj h64⟩ []
   rintro ⟨v63,hv_⟩
   replace hv_:=hv_.symm
   subst hv_
   refine A30 _ _ ?_
   refine l9 hn ?_
   refine l5 h20 (fun hb67 h20=>?_) (fun hb67 h20=>?_)
   ·refine j5 hn ?_
    refine got hn ?_
    refine R13 _ _ ?_
    refine R12 _ _ ?_
    refine R9 _ _ ?_
    refine R8 _ _ ?_
    refine R7 _ _ ?_
    refine R6 _ _ ?_
    obtain rfl:=Option.some.inj h20
    obtain rfl:=Option.some.inj h
    exact ⟨[],_,fm⟩
   refine q9 hn ?_
   refine A13 _ _ ?_
   refine A12 _ _ ?_
   refine u6 hn ?_
   refine Or.inl (And.intro (Z5 hx25 hl17) ?_)
   refine A9 _ _ ?_
   exact jn ⟨(rest21,k18+1),hd2,h20⟩ [] (by show rest21.length < rest21.length+1; omega)
 rintro ⟨⟨⟩,rfl⟩
 refine A6 _ _ ?_
 refine j4.seqQ fun _ A32 _ R32=>?_
 refine j5 hn ?_
 refine y8 (fun hl68=>?_)
 obtain ⟨o70,h71,h⟩:=j6 h
 refine jk (ι:={ s // o70=G8.next s }) hn (fun s=>[]) (fun s=>[]) [(1,_)] [(1,_)] (fun _ A33 _ R33=>?_) ?_
 ·refine j4.blkQ fun _ _ E34 _ R34=>?_
  refine lq (ι:={ q:((List Cl)×Nat) // q.1=a0.classes.drop q.2∧M8 N a0 r1 q.1 q.2=some o70 }) hn (fun q=>[(134,.int (q.1.2:Int))]) (fun q=>[]) (fun q=>q.1.1.length) [(1,_),(3,_),(132,_),(133,_)] [(1,_),(3,_)] ⟨(a0.classes,0),rfl,h71⟩ [] ?_
  rintro ⟨⟨rest_,k69⟩,hd73,h71⟩ _ A35 X35 R35
  replace hd73:rest_=a0.classes.drop k69:=hd73
  rcases rest_ with _|⟨x75,rest72⟩
  ·have hlt77:=J7 hd73
   replace h71:=(M8.eq_1 _ _ _ _).symm.trans h71
   refine j5 hn ?_
   refine j4.seqQ fun _ _ X36 _=>?_
   refine l9 hn ?_
   refine d9 hlt77 ?_
   refine H8 hn ?_
   refine X36 _ _ _ ?_
   refine X35 _ _ _ ?_
   refine E34 _ _ ?_
   refine A33 _ _ ?_
   exact jn ⟨_,sj h71⟩ []
  ·obtain ⟨hx76,hd2,hlt77⟩:=D5 hd73
   replace h71:=(M8.eq_2 _ _ _ _ _ _).symm.trans h71
   refine j5 hn ?_
   refine j4.seqQ fun _ A37 _ _=>?_
   refine l9 hn ?_
   refine j3 hlt77 ?_
   refine q9 hn ?_
   refine A37 _ _ ?_
   refine j4.seqQ fun _ A38 _ R38=>?_
   refine j4.blkQ fun _ A39 _ _ R39=>?_
   refine j5 hn ?_
   refine aB2 hx76 ?_
   refine j4.seqQ fun _ A40 _ R40=>?_
   refine j5 hn ?_
   obtain ⟨r78,hr79,h71⟩:=j6 h71
   show p9 Try.prog _ _ _ _
   refine cA (aA5 N a0 (k69:Int) r78 hr79) ?_
   refine l9 hn ?_
   refine l5 h71 (fun hb80 h71=>?_) (fun hb80 h71=>?_)
   ·refine j5 hn ?_
    refine got hn ?_
    refine R40 _ _ ?_
    refine R39 _ _ ?_
    refine R38 _ _ ?_
    refine R35 _ _ ?_
    refine R34 _ _ ?_
    refine R33 _ _ ?_
    refine R32 _ _ ?_
    obtain rfl:=Option.some.inj h71
    obtain rfl:=Option.some.inj h
    exact ⟨[],_,fm⟩
   refine q9 hn ?_
   refine A40 _ _ ?_
   refine j4.seqQ fun _ A41 _ R41=>?_
   refine j5 hn ?_
   refine y8 (fun _=>?_)
   refine l9 hn ?_
   refine l5 h71 (fun hb82 h71=>?_) (fun hb82 h71=>?_)
   ·refine kp [] [] ?_
    refine j5 hn ?_
    refine got hn ?_
    refine R41 _ _ ?_
    refine R39 _ _ ?_
    refine R38 _ _ ?_
    refine R35 _ _ ?_
    refine R34 _ _ ?_
    refine R33 _ _ ?_
    refine R32 _ _ ?_
    obtain rfl:=Option.some.inj h71
    obtain rfl:=Option.some.inj h
    exact ⟨[],_,fm⟩
   refine q9 hn ?_
   refine A41 _ _ ?_
   refine kp [(1,_),(3,_),(10,_),(11,_),(132,_),(133,_),(134,_)] [(1,_),(3,_),(11,_)] ?_
   refine j5 hn ?_
   refine y8 (fun hl83=>?_)
   obtain ⟨o85,h86,h71⟩:=j6 h71
   refine jk (ι:={ s // o85=G8.next s }) hn (fun s=>[]) (fun s=>[]) [(1,_),(3,_),(132,_),(133,_),(134,_)] [(1,_),(3,_)] (fun _ A42 _ R42=>?_) ?_
   ·refine j4.blkQ fun _ _ E43 _ R43=>?_
    refine lq (ι:={ q:((List Me)×Nat) // q.1=x75.methods.drop q.2∧I8 N a0 r1 k69 x75 q.1 q.2=some o85 }) hn (fun q=>[(150,.int (q.1.2:Int))]) (fun q=>[]) (fun q=>q.1.1.length) [(1,_),(3,_),(10,_),(11,_),(132,_),(133,_),(134,_),(148,_),(149,_)] [(1,_),(3,_),(11,_)] ⟨(x75.methods,0),rfl,h86⟩ [] ?_
    rintro ⟨⟨rest_,k84⟩,hd88,h86⟩ _ A44 X44 R44
    replace hd88:rest_=x75.methods.drop k84:=hd88
    rcases rest_ with _|⟨x90,rest87⟩
    ·have hlt92:=J7 hd88
     replace h86:=(I8.eq_1 _ _ _ _ _ _).symm.trans h86
     refine j5 hn ?_
     refine j4.seqQ fun _ _ X45 _=>?_
     refine l9 hn ?_
     refine d9 hlt92 ?_
     refine H8 hn ?_
     refine X45 _ _ _ ?_
     refine X44 _ _ _ ?_
     refine E43 _ _ ?_
     refine A42 _ _ ?_
     exact jn ⟨_,sj h86⟩ []
    ·obtain ⟨hx91,hd2,hlt92⟩:=D5 hd88
     replace h86:=(I8.eq_2 _ _ _ _ _ _ _ _).symm.trans h86
     refine j5 hn ?_
     refine j4.seqQ fun _ A46 _ _=>?_
     refine l9 hn ?_
     refine j3 hlt92 ?_
     refine q9 hn ?_
     refine A46 _ _ ?_
     refine j4.seqQ fun _ A47 _ R47=>?_
     refine j4.blkQ fun _ A48 _ _ R48=>?_
     refine j5 hn ?_
     refine aB2 hx91 ?_
     refine j4.seqQ fun _ A49 _ R49=>?_
     refine j4.seqQ fun _ A50 _ _=>?_
     obtain ⟨o95,h94,h86⟩:=j6 h86
     refine jk (ι:={ s // o95=s }) hn (fun s=>[(168,.bool s.1)]) (fun s=>[]) [(1,_),(3,_),(10,_),(11,_),(13,_),(132,_),(133,_),(134,_),(148,_),(149,_),(150,_)] [(1,_),(3,_),(11,_),(13,_)] (fun _ A51 _ _=>?_) ?_
     ·refine god hn (by kernel_rfl) ?_
      refine l5 h94 (fun hb96 h94=>?_) (fun hb96 h94=>?_)
      ·refine j3 hb96 ?_
       refine j3 hb96 ?_
       refine j3 hb96 ?_
       refine Or.inr ?_
       refine j3 hb96 ?_
       obtain ⟨x97,hx98,h94⟩:=j6 h94
       refine Q3 hx98 ?_
       refine j3 hb96 ?_
       refine j3 hb96 ?_
       refine j3 hb96 ?_
       refine j3 hb96 ?_
       refine j3 hb96 ?_
       refine j3 hb96 ?_
       refine A51 _ _ ?_
       exact jn ⟨_,sj h94⟩ []
      refine d9 hb96 ?_
      refine d9 hb96 ?_
      refine d9 hb96 ?_
      refine d9 hb96 ?_
      refine d9 hb96 ?_
      refine d9 hb96 ?_
      refine d9 hb96 ?_
      refine d9 hb96 ?_
      refine d9 hb96 ?_
      refine d9 hb96 ?_
      refine A51 _ _ ?_
      exact jn ⟨_,sj h94⟩ []
     rintro ⟨v93,hv_⟩
     replace hv_:=hv_.symm
     subst hv_
     refine A50 _ _ ?_
     refine l9 hn ?_
     refine l5 h86 (fun hb99 h86=>?_) (fun hb99 h86=>?_)
     ·refine j5 hn ?_
      refine got hn ?_
      refine R49 _ _ ?_
      refine R48 _ _ ?_
      refine R47 _ _ ?_
      refine R44 _ _ ?_
      refine R43 _ _ ?_
      refine R42 _ _ ?_
      refine R39 _ _ ?_
      refine R38 _ _ ?_
      refine R35 _ _ ?_
      refine R34 _ _ ?_
      refine R33 _ _ ?_
      refine R32 _ _ ?_
      obtain rfl:=Option.some.inj h86
      obtain rfl:=Option.some.inj h71
      obtain rfl:=Option.some.inj h
      exact ⟨[],_,fm⟩
     refine q9 hn ?_
     refine A49 _ _ ?_
     refine j5 hn ?_
     refine j4.seqQ fun _ A52 _ _=>?_
     refine j5 hn ?_
     obtain ⟨x100,hx101,h86⟩:=j6 h86
     refine Q3 hx101 ?_
     refine y8 (fun hl102=>?_)
     obtain ⟨o107,h108,h86⟩:=j6 h86
     refine jk (ι:={ s // o107=s }) hn (fun s=>[(14,.bool s.1)]) (fun s=>[]) [(1,_),(3,_),(10,_),(11,_),(13,_),(132,_),(133,_),(134,_),(148,_),(149,_),(150,_)] [(1,_),(3,_),(11,_),(13,_)] (fun _ A53 _ _=>?_) ?_
     ·refine j4.blkQ fun _ _ E54 _ _=>?_
      refine lq (ι:={ q:((List Me)×Nat×Bool) // q.1=x100.methods.drop q.2.1∧K7 N k69 x90 q.1 q.2.1 q.2.2=some o107 }) hn (fun q=>[(14,.bool q.1.2.2),(175,.int (q.1.2.1:Int))]) (fun q=>[]) (fun q=>q.1.1.length) [(1,_),(3,_),(10,_),(11,_),(13,_),(132,_),(133,_),(134,_),(148,_),(149,_),(150,_),(173,_),(174,_)] [(1,_),(3,_),(11,_),(13,_)] ⟨(x100.methods,0,false),rfl,h108⟩ [] ?_
      rintro ⟨⟨rest_,k103,v104⟩,hd110,h108⟩ _ A55 X55 _
      replace hd110:rest_=x100.methods.drop k103:=hd110
      rcases rest_ with _|⟨x112,rest109⟩
      ·have hlt114:=J7 hd110
       replace h108:=(K7.eq_1 _ _ _ _ _).symm.trans h108
       refine j5 hn ?_
       refine j4.seqQ fun _ _ X56 _=>?_
       refine l9 hn ?_
       refine d9 hlt114 ?_
       refine H8 hn ?_
       refine X56 _ _ _ ?_
       refine X55 _ _ _ ?_
       refine E54 _ _ ?_
       refine A53 _ _ ?_
       exact jn ⟨_,sj h108⟩ []
      ·obtain ⟨hx113,hd2,hlt114⟩:=D5 hd110
       replace h108:=(K7.eq_2 _ _ _ _ _ _ _).symm.trans h108
       refine j5 hn ?_
       refine j4.seqQ fun _ A57 _ _=>?_
       refine l9 hn ?_
       refine j3 hlt114 ?_
       refine q9 hn ?_
       refine A57 _ _ ?_
       refine j4.seqQ fun _ A58 _ _=>?_
       obtain ⟨o117,h116,h108⟩:=j6 h108
       refine jk (ι:={ s // o117=s }) hn (fun s=>[(14,.bool s.1)]) (fun s=>[]) [(1,_),(3,_),(10,_),(11,_),(13,_),(132,_),(133,_),(134,_),(148,_),(149,_),(150,_),(173,_),(174,_),(175,_)] [(1,_),(3,_),(11,_),(13,_)] (fun _ A59 _ _=>?_) ?_
       ·refine j4.blkQ fun _ A60 _ _ _=>?_
        refine j5 hn ?_
        refine aB2 hx113 ?_
        obtain ⟨o120,h119,h116⟩:=j6 h116
        refine jk (ι:={ s // o120=s }) hn (fun s=>[(14,.bool s.1)]) (fun s=>[]) [(1,_),(3,_),(10,_),(11,_),(13,_),(132,_),(133,_),(134,_),(148,_),(149,_),(150,_),(173,_),(174,_),(175,_)] [(1,_),(3,_),(11,_),(13,_)] (fun _ A61 _ _=>?_) ?_
        ·refine kp [(1,_),(3,_),(10,_),(11,_),(13,_),(14,_),(16,_),(132,_),(133,_),(134,_),(148,_),(149,_),(150,_),(173,_),(174,_),(175,_)] [(1,_),(3,_),(11,_),(13,_),(16,_)] ?_
         refine u6 hn ?_
         refine l5 h119 (fun hb121 h119=>?_) (fun hb121 h119=>?_)
         ·refine j3 hb121 ?_
          refine j3 hb121 ?_
          refine j3 hb121 ?_
          refine j3 hb121 ?_
          refine j3 hb121 ?_
          refine j3 hb121 ?_
          refine j3 hb121 ?_
          refine j3 hb121 ?_
          refine j3 hb121 ?_
          refine j3 hb121 ?_
          refine j3 hb121 ?_
          refine j3 hb121 ?_
          refine A61 _ _ ?_
          exact jn ⟨_,sj h119⟩ []
         refine d9 hb121 ?_
         refine d9 hb121 ?_
         refine l5 h119 (fun hb122 h119=>?_) (fun hb122 h119=>?_)
         ·refine j3 hb122 ?_
          refine j3 hb122 ?_
          refine j3 hb122 ?_
          refine j3 hb122 ?_
          refine d9 hb121 ?_
          refine j3 hb122 ?_
          refine d9 hb121 ?_
          refine l5 h119 (fun hb123 h119=>?_) (fun hb123 h119=>?_)
          ·refine j3 hb123 ?_
           refine j3 hb123 ?_
           refine j3 hb123 ?_
           refine j3 hb123 ?_
           refine d9 hb121 ?_
           refine j3 hb123 ?_
           refine d9 hb121 ?_
           refine l5 h119 (fun hb124 h119=>?_) (fun hb124 h119=>?_)
           ·refine j3 hb124 ?_
            refine j3 hb124 ?_
            refine d9 hb121 ?_
            refine j3 hb124 ?_
            refine d9 hb121 ?_
            refine l5 h119 (fun hb125 h119=>?_) (fun hb125 h119=>?_)
            ·refine j3 hb125 ?_
             refine j3 hb125 ?_
             refine d9 hb121 ?_
             refine j3 hb125 ?_
             refine d9 hb121 ?_
             refine l5 h119 (fun hb126 h119=>?_) (fun hb126 h119=>?_)
             ·refine j3 hb126 ?_
              refine j3 hb126 ?_
              refine y8 (fun _=>?_)
              refine j3 hb126 ?_
              refine d9 hb121 ?_
              refine j3 hb126 ?_
              refine d9 hb121 ?_
              refine A61 _ _ ?_
              exact jn ⟨_,sj h119⟩ []
             refine d9 hb126 ?_
             refine d9 hb126 ?_
             refine d9 hb126 ?_
             refine d9 hb121 ?_
             refine d9 hb126 ?_
             refine d9 hb121 ?_
             refine A61 _ _ ?_
             exact jn ⟨_,sj h119⟩ []
            refine d9 hb125 ?_
            refine d9 hb125 ?_
            refine d9 hb121 ?_
            refine d9 hb125 ?_
            refine d9 hb121 ?_
            refine d9 hb121 ?_
            refine d9 hb121 ?_
            refine A61 _ _ ?_
            exact jn ⟨_,sj h119⟩ []
           refine d9 hb124 ?_
           refine d9 hb124 ?_
           refine d9 hb121 ?_
           refine d9 hb124 ?_
           refine d9 hb121 ?_
           refine d9 hb121 ?_
           refine d9 hb121 ?_
           refine d9 hb121 ?_
           refine d9 hb121 ?_
           refine A61 _ _ ?_
           exact jn ⟨_,sj h119⟩ []
          refine d9 hb123 ?_
          refine d9 hb123 ?_
          refine d9 hb123 ?_
          refine d9 hb123 ?_
          refine d9 hb121 ?_
          refine d9 hb123 ?_
          refine d9 hb121 ?_
          refine d9 hb121 ?_
          refine d9 hb121 ?_
          refine d9 hb121 ?_
          refine d9 hb121 ?_
          refine d9 hb121 ?_
          refine d9 hb121 ?_
          refine A61 _ _ ?_
          exact jn ⟨_,sj h119⟩ []
         refine d9 hb122 ?_
         refine d9 hb122 ?_
         refine d9 hb122 ?_
         refine d9 hb122 ?_
         refine d9 hb121 ?_
         refine d9 hb122 ?_
         refine d9 hb121 ?_
         refine d9 hb121 ?_
         refine d9 hb121 ?_
         refine d9 hb121 ?_
         refine d9 hb121 ?_
         refine d9 hb121 ?_
         refine d9 hb121 ?_
         refine d9 hb121 ?_
         refine d9 hb121 ?_
         refine A61 _ _ ?_
         exact jn ⟨_,sj h119⟩ []
        rintro ⟨v118,hv_⟩
        replace hv_:=hv_.symm
        subst hv_
        refine A60 _ _ ?_
        refine A59 _ _ ?_
        exact jn ⟨_,sj h116⟩ []
       rintro ⟨v115,hv_⟩
       replace hv_:=hv_.symm
       subst hv_
       refine A58 _ _ ?_
       refine u6 hn ?_
       refine Or.inl (And.intro (Z5 hx113 hl102) ?_)
       refine A55 _ _ ?_
       exact jn ⟨(rest109,k103+1,v115),hd2,h108⟩ [] (by show rest109.length < rest109.length+1; omega)
     rintro ⟨v106,hv_⟩
     replace hv_:=hv_.symm
     subst hv_
     refine A52 _ _ ?_
     refine j5 hn ?_
     obtain ⟨r128,hr129,h86⟩:=j6 h86
     show p9 Try.prog _ _ _ _
     refine cA (bA7 N a0 (k69:Int) x90 r128 hr129) ?_
     refine j4.seqQ fun _ A62 _ _=>?_
     obtain ⟨o132,h131,h86⟩:=j6 h86
     refine jk (ι:={ s // o132=s }) hn (fun s=>[(225,.bool s.1)]) (fun s=>[]) [(1,_),(3,_),(10,_),(11,_),(17,_),(132,_),(133,_),(134,_),(148,_),(149,_),(150,_)] [(1,_),(3,_),(11,_),(17,_)] (fun _ A63 _ _=>?_) ?_
     ·refine kp [(1,_),(3,_),(10,_),(11,_),(14,_),(17,_),(132,_),(133,_),(134,_),(148,_),(149,_),(150,_)] [(1,_),(3,_),(11,_),(17,_)] ?_
      refine u6 hn ?_
      refine l5 h131 (fun hb133 h131=>?_) (fun hb133 h131=>?_)
      ·refine j3 hb133 ?_
       refine j3 hb133 ?_
       refine j3 hb133 ?_
       refine A63 _ _ ?_
       exact jn ⟨_,sj h131⟩ []
      refine d9 hb133 ?_
      refine d9 hb133 ?_
      refine d9 hb133 ?_
      refine A63 _ _ ?_
      exact jn ⟨_,sj h131⟩ []
     rintro ⟨v130,hv_⟩
     replace hv_:=hv_.symm
     subst hv_
     refine A62 _ _ ?_
     refine l9 hn ?_
     refine l5 h86 (fun hb134 h86=>?_) (fun hb134 h86=>?_)
     ·refine j5 hn ?_
      refine got hn ?_
      refine R48 _ _ ?_
      refine R47 _ _ ?_
      refine R44 _ _ ?_
      refine R43 _ _ ?_
      refine R42 _ _ ?_
      refine R39 _ _ ?_
      refine R38 _ _ ?_
      refine R35 _ _ ?_
      refine R34 _ _ ?_
      refine R33 _ _ ?_
      refine R32 _ _ ?_
      obtain rfl:=Option.some.inj h86
      obtain rfl:=Option.some.inj h71
      obtain rfl:=Option.some.inj h
      exact ⟨[],_,fm⟩
     refine q9 hn ?_
     refine A48 _ _ ?_
     refine A47 _ _ ?_
     refine u6 hn ?_
     refine Or.inl (And.intro (Z5 hx91 hl83) ?_)
     refine A44 _ _ ?_
     exact jn ⟨(rest87,k84+1),hd2,h86⟩ [] (by show rest87.length < rest87.length+1; omega)
   rintro ⟨⟨⟩,rfl⟩
   refine A39 _ _ ?_
   refine A38 _ _ ?_
   refine u6 hn ?_
   refine Or.inl (And.intro (Z5 hx76 hl68) ?_)
   refine A35 _ _ ?_
   exact jn ⟨(rest72,k69+1),hd2,h71⟩ [] (by show rest72.length < rest72.length+1; omega)
 rintro ⟨⟨⟩,rfl⟩
 refine A32 _ _ ?_
 refine j4.seqQ fun _ A64 _ R64=>?_
 refine j5 hn ?_
 refine y8 (fun hl135=>?_)
 obtain ⟨o137,h138,h⟩:=j6 h
 refine jk (ι:={ s // o137=G8.next s }) hn (fun s=>[]) (fun s=>[]) [] [] (fun _ A65 _ R65=>?_) ?_
 ·refine j4.blkQ fun _ _ E66 _ R66=>?_
  refine lq (ι:={ q:((List Ob)×Nat) // q.1=a0.heap.drop q.2∧K6 N a0 q.1 q.2=some o137 }) hn (fun q=>[(233,.int (q.1.2:Int))]) (fun q=>[]) (fun q=>q.1.1.length) [(1,_),(231,_),(232,_)] [(1,_)] ⟨(a0.heap,0),rfl,h138⟩ [] ?_
  rintro ⟨⟨rest_,k136⟩,hd140,h138⟩ _ A67 X67 R67
  replace hd140:rest_=a0.heap.drop k136:=hd140
  rcases rest_ with _|⟨x142,rest139⟩
  ·have hlt144:=J7 hd140
   replace h138:=(K6.eq_1 _ _ _).symm.trans h138
   refine j5 hn ?_
   refine j4.seqQ fun _ _ X68 _=>?_
   refine l9 hn ?_
   refine d9 hlt144 ?_
   refine H8 hn ?_
   refine X68 _ _ _ ?_
   refine X67 _ _ _ ?_
   refine E66 _ _ ?_
   refine A65 _ _ ?_
   exact jn ⟨_,sj h138⟩ []
  ·obtain ⟨hx143,hd2,hlt144⟩:=D5 hd140
   replace h138:=(K6.eq_2 _ _ _ _ _).symm.trans h138
   refine j5 hn ?_
   refine j4.seqQ fun _ A69 _ _=>?_
   refine l9 hn ?_
   refine j3 hlt144 ?_
   refine q9 hn ?_
   refine A69 _ _ ?_
   refine j4.seqQ fun _ A70 _ R70=>?_
   refine j4.blkQ fun _ A71 _ _ R71=>?_
   refine j5 hn ?_
   refine aB2 hx143 ?_
   refine j4.seqQ fun _ A72 _ R72=>?_
   refine j4.seqQ fun _ A73 _ _=>?_
   obtain ⟨o147,h146,h138⟩:=j6 h138
   refine jk (ι:={ s // o147=s }) hn (fun s=>[(267,.bool s.1)]) (fun s=>[]) [(1,_),(19,_),(231,_),(232,_),(233,_)] [(1,_),(19,_)] (fun _ A74 _ _=>?_) ?_
   ·refine kp [(1,_),(19,_),(231,_),(232,_),(233,_)] [(1,_),(19,_)] ?_
    refine god hn (by kernel_rfl) ?_
    refine l5 h146 (fun hb148 h146=>?_) (fun hb148 h146=>?_)
    ·refine j3 hb148 ?_
     refine j3 hb148 ?_
     refine j3 hb148 ?_
     refine j3 hb148 ?_
     refine j3 hb148 ?_
     refine A74 _ _ ?_
     exact jn ⟨_,sj h146⟩ []
    refine d9 hb148 ?_
    refine d9 hb148 ?_
    refine d9 hb148 ?_
    refine l5 h146 (fun hb149 h146=>?_) (fun hb149 h146=>?_)
    ·refine j3 hb149 ?_
     refine j3 hb149 ?_
     refine d9 hb148 ?_
     refine j3 hb149 ?_
     refine d9 hb148 ?_
     refine l5 h146 (fun hb150 h146=>?_) (fun hb150 h146=>?_)
     ·refine j3 hb150 ?_
      refine j3 hb150 ?_
      refine j3 hb150 ?_
      refine j3 hb150 ?_
      refine j3 hb150 ?_
      refine j3 hb150 ?_
      refine A74 _ _ ?_
      exact jn ⟨_,sj h146⟩ []
     refine d9 hb150 ?_
     refine d9 hb150 ?_
     refine d9 hb150 ?_
     refine d9 hb150 ?_
     refine y8 (fun _=>?_)
     refine d9 hb150 ?_
     refine d9 hb150 ?_
     refine l5 h146 (fun hb152 h146=>?_) (fun hb152 h146=>?_)
     ·refine j3 hb152 ?_
      refine j3 hb152 ?_
      refine j3 hb152 ?_
      refine j3 hb152 ?_
      refine j3 hb152 ?_
      refine j3 hb152 ?_
      refine j3 hb152 ?_
      refine j3 hb152 ?_
      refine A74 _ _ ?_
      exact jn ⟨_,sj h146⟩ []
     refine d9 hb152 ?_
     refine d9 hb152 ?_
     refine y8 (fun _=>?_)
     refine d9 hb152 ?_
     refine d9 hb152 ?_
     refine d9 hb152 ?_
     refine d9 hb152 ?_
     obtain ⟨r154,hr155,h146⟩:=j6 h146
     show p9 Try.prog _ _ _ _
     refine cA (aA5 N a0 x142.cls r154 hr155) ?_
     refine d9 hb152 ?_
     refine d9 hb152 ?_
     refine A74 _ _ ?_
     exact jn ⟨_,sj h146⟩ []
    refine d9 hb149 ?_
    refine d9 hb149 ?_
    refine d9 hb148 ?_
    refine d9 hb149 ?_
    refine d9 hb148 ?_
    refine y8 (fun _=>?_)
    refine l5 h146 (fun hb157 h146=>?_) (fun hb157 h146=>?_)
    ·refine j3 hb157 ?_
     refine j3 hb157 ?_
     refine j3 hb157 ?_
     refine j3 hb157 ?_
     refine j3 hb157 ?_
     refine j3 hb157 ?_
     refine j3 hb157 ?_
     refine j3 hb157 ?_
     refine A74 _ _ ?_
     exact jn ⟨_,sj h146⟩ []
    refine d9 hb157 ?_
    refine d9 hb157 ?_
    refine y8 (fun _=>?_)
    refine d9 hb157 ?_
    refine d9 hb157 ?_
    refine d9 hb157 ?_
    refine d9 hb157 ?_
    obtain ⟨r159,hr160,h146⟩:=j6 h146
    show p9 Try.prog _ _ _ _
    refine cA (aA5 N a0 x142.cls r159 hr160) ?_
    refine d9 hb157 ?_
    refine d9 hb157 ?_
    refine A74 _ _ ?_
    exact jn ⟨_,sj h146⟩ []
   rintro ⟨v145,hv_⟩
   replace hv_:=hv_.symm
   subst hv_
   refine A73 _ _ ?_
   refine l9 hn ?_
   refine l5 h138 (fun hb161 h138=>?_) (fun hb161 h138=>?_)
   ·refine j5 hn ?_
    refine got hn ?_
    refine R72 _ _ ?_
    refine R71 _ _ ?_
    refine R70 _ _ ?_
    refine R67 _ _ ?_
    refine R66 _ _ ?_
    refine R65 _ _ ?_
    refine R64 _ _ ?_
    obtain rfl:=Option.some.inj h138
    obtain rfl:=Option.some.inj h
    exact ⟨[],_,fm⟩
   refine q9 hn ?_
   refine A72 _ _ ?_
   refine j5 hn ?_
   refine y8 (fun hl162=>?_)
   obtain ⟨o164,h165,h138⟩:=j6 h138
   refine jk (ι:={ s // o164=G8.next s }) hn (fun s=>[]) (fun s=>[]) [(1,_),(231,_),(232,_),(233,_)] [(1,_)] (fun _ A75 _ R75=>?_) ?_
   ·refine j4.blkQ fun _ _ E76 _ R76=>?_
    refine lq (ι:={ q:((List V)×Nat) // q.1=x142.slots.drop q.2∧K8 N a0 q.1 q.2=some o164 }) hn (fun q=>[(271,.int (q.1.2:Int))]) (fun q=>[]) (fun q=>q.1.1.length) [(1,_),(231,_),(232,_),(233,_),(269,_),(270,_)] [(1,_)] ⟨(x142.slots,0),rfl,h165⟩ [] ?_
    rintro ⟨⟨rest_,k163⟩,hd167,h165⟩ _ A77 X77 R77
    replace hd167:rest_=x142.slots.drop k163:=hd167
    rcases rest_ with _|⟨x169,rest166⟩
    ·have hlt171:=J7 hd167
     replace h165:=(K8.eq_1 _ _ _).symm.trans h165
     refine j5 hn ?_
     refine j4.seqQ fun _ _ X78 _=>?_
     refine l9 hn ?_
     refine d9 hlt171 ?_
     refine H8 hn ?_
     refine X78 _ _ _ ?_
     refine X77 _ _ _ ?_
     refine E76 _ _ ?_
     refine A75 _ _ ?_
     exact jn ⟨_,sj h165⟩ []
    ·obtain ⟨hx170,hd2,hlt171⟩:=D5 hd167
     replace h165:=(K8.eq_2 _ _ _ _ _).symm.trans h165
     refine j5 hn ?_
     refine j4.seqQ fun _ A79 _ _=>?_
     refine l9 hn ?_
     refine j3 hlt171 ?_
     refine q9 hn ?_
     refine A79 _ _ ?_
     refine j4.seqQ fun _ A80 _ R80=>?_
     refine j4.blkQ fun _ A81 _ _ R81=>?_
     refine j5 hn ?_
     refine aB2 hx170 ?_
     refine j5 hn ?_
     refine y8 (fun _=>?_)
     obtain ⟨r173,hr174,h165⟩:=j6 h165
     show p9 Try.prog _ _ _ _
     refine cA (bA0 N x169 (a0.heap.length:Int) r173 hr174) ?_
     refine kp [(1,_),(22,_),(231,_),(232,_),(233,_),(269,_),(270,_),(271,_)] [(1,_)] ?_
     refine j5 hn ?_
     refine l9 hn ?_
     refine l5 h165 (fun hb175 h165=>?_) (fun hb175 h165=>?_)
     ·refine j5 hn ?_
      refine got hn ?_
      refine R81 _ _ ?_
      refine R80 _ _ ?_
      refine R77 _ _ ?_
      refine R76 _ _ ?_
      refine R75 _ _ ?_
      refine R71 _ _ ?_
      refine R70 _ _ ?_
      refine R67 _ _ ?_
      refine R66 _ _ ?_
      refine R65 _ _ ?_
      refine R64 _ _ ?_
      obtain rfl:=Option.some.inj h165
      obtain rfl:=Option.some.inj h138
      obtain rfl:=Option.some.inj h
      exact ⟨[],_,fm⟩
     refine q9 hn ?_
     refine A81 _ _ ?_
     refine A80 _ _ ?_
     refine u6 hn ?_
     refine Or.inl (And.intro (Z5 hx170 hl162) ?_)
     refine A77 _ _ ?_
     exact jn ⟨(rest166,k163+1),hd2,h165⟩ [] (by show rest166.length < rest166.length+1; omega)
   rintro ⟨⟨⟩,rfl⟩
   refine A71 _ _ ?_
   refine A70 _ _ ?_
   refine u6 hn ?_
   refine Or.inl (And.intro (Z5 hx143 hl135) ?_)
   refine A67 _ _ ?_
   exact jn ⟨(rest139,k136+1),hd2,h138⟩ [] (by show rest139.length < rest139.length+1; omega)
 rintro ⟨⟨⟩,rfl⟩
 refine A64 _ _ ?_
 refine j5 hn ?_
 refine got hn ?_
 obtain rfl:=Option.some.inj h
 exact ⟨[],_,fm⟩

/- class.Name -/
set_option maxRecDepth 100000 in
set_option maxHeartbeats 8000000 in
theorem aT6 (N:Nat) (a0:ByteArray) (r:Bool) (h:aK1 N a0=some r):Spec Try.prog 26 [] [.str a0] (.bool r) [] []:=by
 refine Spec.of D9 Try.func26 rfl Try.ntmps26 (by kernel_rfl) rfl rfl rfl fun Γ hn=>?_
 unfold aK1 at h
 refine j5 hn ?_
 refine j4.seqQ fun _ A0 _ R0=>?_
 refine j4.seqQ fun _ A1 _ _=>?_
 obtain ⟨o3,h2,h⟩:=j6 h
 refine jk (ι:={ s // o3=s }) hn (fun s=>[(11,.bool s.1)]) (fun s=>[]) [(0,_)] [] (fun _ A2 _ _=>?_) ?_
 ·refine u6 hn ?_
  intro _
  refine l5 h2 (fun hb5 h2=>?_) (fun hb5 h2=>?_)
  ·refine j3 hb5 ?_
   refine j3 hb5 ?_
   refine j3 hb5 ?_
   refine A2 _ _ ?_
   exact jn ⟨_,sj h2⟩ []
  refine d9 hb5 ?_
  intro _
  refine d9 hb5 ?_
  refine d9 hb5 ?_
  refine A2 _ _ ?_
  exact jn ⟨_,sj h2⟩ []
 rintro ⟨v1,hv_⟩
 replace hv_:=hv_.symm
 subst hv_
 refine A1 _ _ ?_
 refine l9 hn ?_
 refine l5 h (fun hb7 h=>?_) (fun hb7 h=>?_)
 ·refine j5 hn ?_
  refine got hn ?_
  refine R0 _ _ ?_
  obtain rfl:=Option.some.inj h
  exact ⟨[],_,fm⟩
 refine q9 hn ?_
 refine A0 _ _ ?_
 refine j4.seqQ fun _ A3 _ R3=>?_
 refine j5 hn ?_
 intro _
 refine j4.rng 13 rfl (fun hrn=>?_)
 obtain ⟨o10,h11,h⟩:=j6 h
 refine jk (ι:={ s // o10=G8.next s }) hn (fun s=>[]) (fun s=>[]) [] [] (fun _ A4 _ R4=>?_) ?_
 ·refine j4.blkQ fun _ _ E5 _ R5=>?_
  refine lq (ι:={ q:(Nat×Nat) // q.1=((a0.size:Int) - (q.2:Int)).toNat∧aA0 N a0 q.1 q.2=some o10 }) hn (fun q=>[(14,.int (q.1.2:Int))]) (fun q=>[]) (fun q=>q.1.1) [(0,_),(13,_)] [] ⟨(((a0.size:Int) - ((0:Nat):Int)).toNat,0),rfl,h11⟩ [] ?_
  rintro ⟨⟨n_,k9⟩,hd13,h11⟩ _ A6 X6 R6
  replace hd13:n_=((a0.size:Int) - (k9:Int)).toNat:=hd13
  rcases n_ with _|n14
  ·have hlt17:=bO2 hd13
   replace h11:=(aA0.eq_1 _ _ _).symm.trans h11
   refine j5 hn ?_
   refine j4.seqQ fun _ _ X7 _=>?_
   refine l9 hn ?_
   refine d9 hlt17 ?_
   refine H8 hn ?_
   refine X7 _ _ _ ?_
   refine X6 _ _ _ ?_
   refine E5 _ _ ?_
   refine A4 _ _ ?_
   exact jn ⟨_,sj h11⟩ []
  ·obtain ⟨hd2,hlt17⟩:=bH7 hd13
   replace h11:=(aA0.eq_2 _ _ _ _).symm.trans h11
   refine j5 hn ?_
   refine j4.seqQ fun _ A8 _ _=>?_
   refine l9 hn ?_
   refine j3 hlt17 ?_
   refine q9 hn ?_
   refine A8 _ _ ?_
   refine j4.seqQ fun _ A9 _ R9=>?_
   refine j4.blkQ fun _ A10 _ _ R10=>?_
   refine j5 hn ?_
   refine j4.seqQ fun _ A11 _ _=>?_
   obtain ⟨o20,h19,h11⟩:=j6 h11
   refine jk (ι:={ s // o20=s }) hn (fun s=>[(26,.bool s.1)]) (fun s=>[]) [(0,_),(13,_),(14,_)] [] (fun _ A12 _ _=>?_) ?_
   ·refine u6 hn ?_
    obtain ⟨u21,hx22,h19⟩:=j6 h19
    refine byM hx22 ?_
    refine And.intro rfl ?_
    refine l5 h19 (fun hb23 h19=>?_) (fun hb23 h19=>?_)
    ·refine j3 hb23 ?_
     refine j3 hb23 ?_
     refine j3 hb23 ?_
     refine j3 hb23 ?_
     refine A12 _ _ ?_
     exact jn ⟨_,sj h19⟩ []
    refine d9 hb23 ?_
    refine d9 hb23 ?_
    obtain ⟨u24,hx25,h19⟩:=j6 h19
    refine byM hx25 ?_
    refine d9 hb23 ?_
    refine And.intro rfl ?_
    refine d9 hb23 ?_
    refine A12 _ _ ?_
    exact jn ⟨_,sj h19⟩ []
   rintro ⟨v18,hv_⟩
   replace hv_:=hv_.symm
   subst hv_
   refine A11 _ _ ?_
   refine l9 hn ?_
   refine l5 h11 (fun hb26 h11=>?_) (fun hb26 h11=>?_)
   ·refine j5 hn ?_
    refine got hn ?_
    refine R10 _ _ ?_
    refine R9 _ _ ?_
    refine R6 _ _ ?_
    refine R5 _ _ ?_
    refine R4 _ _ ?_
    refine R3 _ _ ?_
    obtain rfl:=Option.some.inj h11
    obtain rfl:=Option.some.inj h
    exact ⟨[],_,fm⟩
   refine q9 hn ?_
   refine A10 _ _ ?_
   refine A9 _ _ ?_
   refine u6 hn ?_
   refine Or.inl (And.intro (bY3 hlt17 hrn) ?_)
   refine A6 _ _ ?_
   exact jn ⟨(n14,k9+1),hd2,h11⟩ [] (by show n14 < n14+1; omega)
 rintro ⟨⟨⟩,rfl⟩
 refine A3 _ _ ?_
 refine j5 hn ?_
 refine got hn ?_
 obtain rfl:=Option.some.inj h
 exact ⟨[],_,fm⟩

/- slices.Clone[[]api.Value,api.Value] -/
set_option maxRecDepth 100000 in
theorem aX9 (N:Nat) (l:List V) (r:List V) (h:aC5 N l=some r):Spec Try.prog 92 [] [.sl 2 (List.map eV l)] (.own 0) [(0,.row 2 (List.map eV r) 39)] [0]:=by
  obtain ⟨hf,h⟩:=O1 h
  obtain rfl:=Option.some.inj h
  refine Spec.of D9 Try.func92 rfl Try.ntmps92 (by kernel_rfl) rfl rfl rfl fun Γ hn=>?_
  refine j5 hn ?_
  refine j4.seq (j4.seq (j4.ops (goo hn 1 ?_)))
  refine OOk.gh (Gh.nil 3 rfl) ?_
  rintro ⟨b,hb⟩
  refine goo hn 1 (OOk.done ?_)
  (repeat (first|refine j5 hn ?_|refine u6 hn ?_|refine gob hn ?_|refine l9 hn ?_|refine H8 hn ?_|refine q9 hn ?_|refine got hn ?_))
  refine bT3 (fun hb1=>?_) (fun hb1=>?_)
  · have e:l=[]:=by simpa using hb hb1
    subst e
    refine j5 hn ?_
    refine j4.nilrow 2 5 2 39 rfl rfl rfl ?_
    (repeat (first|refine j5 hn ?_|refine u6 hn ?_|refine gob hn ?_|refine l9 hn ?_|refine H8 hn ?_|refine q9 hn ?_|refine got hn ?_))
    exact ⟨[(0,5)],_,rfl,rfl,⟨rfl,trivial⟩,rfl,rfl,rfl,rfl,rfl⟩
  · (repeat (first|refine j5 hn ?_|refine u6 hn ?_|refine gob hn ?_|refine l9 hn ?_|refine H8 hn ?_|refine q9 hn ?_|refine got hn ?_))
    refine Exists.intro [] (And.intro trivial ?_)
    refine And.intro (by have:=Nat.le_of_ble_eq_true hf; simpa using this) ?_
    refine Exists.intro (List.map eV l) (And.intro (F9 _) ?_)
    (repeat (first|refine j5 hn ?_|refine u6 hn ?_|refine gob hn ?_|refine l9 hn ?_|refine H8 hn ?_|refine q9 hn ?_|refine got hn ?_))
    exact ⟨[(0,7)],_,rfl,rfl,⟨rfl,trivial⟩,rfl,rfl,rfl,rfl,rfl⟩

/- value.Own -/
set_option maxRecDepth 100000 in
set_option maxHeartbeats 8000000 in
theorem aL5 (N:Nat) (a0:(List Ob)) (r:(List Ob)) (h:aB7 N a0=some r):Spec Try.prog 65 [] [.sl 2 (List.map eOb a0)] (.own 0) [(0,.deep 2 97 [(1,(2,39))] (List.map eOb r) [] 1),(1,.gone)] [0,1]:=by
 refine Spec.of D9 Try.func65 rfl Try.ntmps65 (by kernel_rfl) rfl rfl rfl fun Γ hn=>?_
 unfold aB7 at h
 refine j5 hn ?_
 refine j5 hn ?_
 refine j4.seqQ fun _ A0 _ _=>?_
 refine j5 hn ?_
 refine y8 (fun hl1=>?_)
 refine j4.nilrow 3 203 2 97 rfl rfl rfl ?_
 refine j4.gh (Gh.toDeep 203 501 [(1,(2,39))] rfl rfl rfl rfl) (fun _=>?_)
 obtain ⟨o6,h7,h⟩:=j6 h
 refine jk (ι:={ s // o6=s }) hn (fun s=>[]) (fun s=>[(203,.deep 2 97 [(1,(2,39))] (List.map eOb s.1) [] 501)]) [(3,_)] [(501,_)] (fun _ A1 _ _=>?_) ?_
 ·refine j4.blkQ fun _ _ E2 _ _=>?_
  refine lq (ι:={ q:((List Ob)×Nat×(List Ob)) // q.1=a0.drop q.2.1∧O9 N q.1 q.2.1 q.2.2=some o6 }) hn (fun q=>[(8,.int (q.1.2.1:Int))]) (fun q=>[(203,.deep 2 97 [(1,(2,39))] (List.map eOb q.1.2.2) [] 501)]) (fun q=>q.1.1.length) [(3,_),(6,_),(7,_)] [(501,_)] ⟨(a0,0,([]:List Ob)),rfl,h7⟩ [] ?_
  rintro ⟨⟨rest_,k2,v3⟩,hd9,h7⟩ _ A3 X3 _
  replace hd9:rest_=a0.drop k2:=hd9
  rcases rest_ with _|⟨x11,rest8⟩
  ·have hlt13:=J7 hd9
   replace h7:=(O9.eq_1 _ _ _).symm.trans h7
   refine j5 hn ?_
   refine j4.seqQ fun _ _ X4 _=>?_
   refine l9 hn ?_
   refine d9 hlt13 ?_
   refine H8 hn ?_
   refine X4 _ _ _ ?_
   refine X3 _ _ _ ?_
   refine E2 _ _ ?_
   refine A1 _ _ ?_
   exact jn ⟨_,sj h7⟩ []
  ·obtain ⟨hx12,hd2,hlt13⟩:=D5 hd9
   replace h7:=(O9.eq_2 _ _ _ _ _).symm.trans h7
   refine j5 hn ?_
   refine j4.seqQ fun _ A5 _ _=>?_
   refine l9 hn ?_
   refine j3 hlt13 ?_
   refine q9 hn ?_
   refine A5 _ _ ?_
   refine j4.seqQ fun _ A6 _ _=>?_
   refine j4.blkQ fun _ A7 _ _ _=>?_
   refine j5 hn ?_
   refine aB2 hx12 ?_
   refine j5 hn ?_
   obtain ⟨r14,hr15,h7⟩:=j6 h7
   show p9 Try.prog _ _ _ _
   refine cA ((aX9 N x11.slots r14 hr15).sw 0 14) ?_
   refine u6 hn ?_
   refine Or.inl ?_
   refine Exists.intro [(1,(2,39))] (Exists.intro (eOb (⟨x11.cls,r14⟩:Ob)) (Exists.intro [(14,.row 2 (List.map eV r14) 39)] (And.intro rfl (And.intro rfl (And.intro rfl (And.intro (by decide) (And.intro (by decide) (And.intro rfl (And.intro rfl ?_)))))))))
   obtain ⟨hg16,h7⟩:=O1 h7
   refine b75 (l2:=[(⟨x11.cls,r14⟩:Ob)]) hg16 rfl rfl rfl rfl rfl (by decide) (by decide) ?_
   refine A7 _ _ ?_
   refine A6 _ _ ?_
   refine u6 hn ?_
   refine Or.inl (And.intro (Z5 hx12 hl1) ?_)
   refine A3 _ _ ?_
   exact jn ⟨(rest8,k2+1,(v3++[(⟨x11.cls,r14⟩:Ob)])),hd2,h7⟩ [(203,19),(501,719)] (by show rest8.length < rest8.length+1; omega)
 rintro ⟨v5,hv_⟩
 replace hv_:=hv_.symm
 subst hv_
 refine A0 _ _ ?_
 refine j5 hn ?_
 refine got hn ?_
 obtain rfl:=Option.some.inj h
 exact ⟨[(0,203),(1,501)],_,fm⟩

/- slices.Clone[[]api.Instr,api.Instr] -/
set_option maxRecDepth 100000 in
theorem aU3 (N:Nat) (l:List Ins) (r:List Ins) (h:Z6 N l=some r):Spec Try.prog 71 [] [.sl 5 (List.map aE9 l)] (.own 0) [(0,.row 5 (List.map aE9 r) 100)] [0]:=by
  obtain ⟨hf,h⟩:=O1 h
  obtain rfl:=Option.some.inj h
  refine Spec.of D9 Try.func71 rfl Try.ntmps71 (by kernel_rfl) rfl rfl rfl fun Γ hn=>?_
  refine j5 hn ?_
  refine j4.seq (j4.seq (j4.ops (goo hn 1 ?_)))
  refine OOk.gh (Gh.nil 3 rfl) ?_
  rintro ⟨b,hb⟩
  refine goo hn 1 (OOk.done ?_)
  (repeat (first|refine j5 hn ?_|refine u6 hn ?_|refine gob hn ?_|refine l9 hn ?_|refine H8 hn ?_|refine q9 hn ?_|refine got hn ?_))
  refine bT3 (fun hb1=>?_) (fun hb1=>?_)
  · have e:l=[]:=by simpa using hb hb1
    subst e
    refine j5 hn ?_
    refine j4.nilrow 2 5 5 100 rfl rfl rfl ?_
    (repeat (first|refine j5 hn ?_|refine u6 hn ?_|refine gob hn ?_|refine l9 hn ?_|refine H8 hn ?_|refine q9 hn ?_|refine got hn ?_))
    exact ⟨[(0,5)],_,rfl,rfl,⟨rfl,trivial⟩,rfl,rfl,rfl,rfl,rfl⟩
  · (repeat (first|refine j5 hn ?_|refine u6 hn ?_|refine gob hn ?_|refine l9 hn ?_|refine H8 hn ?_|refine q9 hn ?_|refine got hn ?_))
    refine Exists.intro [] (And.intro trivial ?_)
    refine And.intro (by have:=Nat.le_of_ble_eq_true hf; simpa using this) ?_
    refine Exists.intro (List.map aE9 l) (And.intro (F9 _) ?_)
    (repeat (first|refine j5 hn ?_|refine u6 hn ?_|refine gob hn ?_|refine l9 hn ?_|refine H8 hn ?_|refine q9 hn ?_|refine got hn ?_))
    exact ⟨[(0,7)],_,rfl,rfl,⟨rfl,trivial⟩,rfl,rfl,rfl,rfl,rfl⟩

/- class.Method -/
set_option maxRecDepth 100000 in
set_option maxHeartbeats 8000000 in
theorem U8 (N:Nat) (a0:Me) (r:Me) (h:N8 N a0=some r):Spec Try.prog 36 [] [.agg (F3 a0)] (.agg (F3 r)) [] []:=by
 refine Spec.of D9 Try.func36 rfl Try.ntmps36 (by kernel_rfl) rfl rfl rfl fun Γ hn=>?_
 unfold N8 at h
 refine j5 hn ?_
 refine j5 hn ?_
 obtain ⟨r1,hr2,h⟩:=j6 h
 show p9 Try.prog _ _ _ _
 refine cA ((aU3 N a0.code r1 hr2).sw 0 5) ?_
 refine j5 hn ?_
 refine j4.fzAll 5 rfl ?_
 refine got hn ?_
 obtain rfl:=Option.some.inj h
 exact ⟨[],_,fm⟩

/- class.Own -/
set_option maxRecDepth 100000 in
set_option maxHeartbeats 8000000 in
theorem bJ8 (N:Nat) (a0:Wd) (r:Wd) (h:aV1 N a0=some r):Spec Try.prog 25 [] [.agg (eWd a0)] (.agg [.sl 4 (List.map Y8 r.classes),.own 0,.int r.epoch]) [(0,.deep 2 97 [(1,(2,39))] (List.map eOb r.heap) [] 1),(1,.gone)] [0,1]:=by
 refine Spec.of D9 Try.func25 rfl Try.ntmps25 (by kernel_rfl) rfl rfl rfl fun Γ hn=>?_
 unfold aV1 at h
 refine j5 hn ?_
 refine j4.seqQ fun _ A0 _ _=>?_
 refine god hn (by kernel_rfl) ?_
 obtain ⟨r1,hr2,h⟩:=j6 h
 show p9 Try.prog _ _ _ _
 refine cA (((aL5 N a0.heap r1 hr2).sw 0 11).sw 1 711) ?_
 refine A0 _ _ ?_
 refine j4.seqQ fun _ A1 _ _=>?_
 refine j5 hn ?_
 refine y8 (fun hl3=>?_)
 refine j4.nilrowB 3 0 501 4 67 rfl rfl rfl rfl rfl rfl ?_
 obtain ⟨o8,h9,h⟩:=j6 h
 refine jk (ι:={ s // o8=s }) hn (fun s=>[]) (fun s=>[(501,.row 4 (List.map Y8 s.1) 67)]) [(2,_),(3,_)] [(2,_),(3,_),(11,_),(711,_)] (fun _ A2 _ _=>?_) ?_
 ·refine j4.blkQ fun _ _ E3 _ _=>?_
  refine lq (ι:={ q:((List Cl)×Nat×(List Cl)) // q.1=a0.classes.drop q.2.1∧aB1 N q.1 q.2.1 q.2.2=some o8 }) hn (fun q=>[(18,.int (q.1.2.1:Int))]) (fun q=>[(501,.row 4 (List.map Y8 q.1.2.2) 67)]) (fun q=>q.1.1.length) [(2,_),(3,_),(16,_),(17,_)] [(2,_),(3,_),(11,_),(711,_)] ⟨(a0.classes,0,([]:List Cl)),rfl,h9⟩ [] ?_
  rintro ⟨⟨rest_,k4,v5⟩,hd11,h9⟩ _ A4 X4 _
  replace hd11:rest_=a0.classes.drop k4:=hd11
  rcases rest_ with _|⟨x13,rest10⟩
  ·have hlt15:=J7 hd11
   replace h9:=(aB1.eq_1 _ _ _).symm.trans h9
   refine j5 hn ?_
   refine j4.seqQ fun _ _ X5 _=>?_
   refine l9 hn ?_
   refine d9 hlt15 ?_
   refine H8 hn ?_
   refine X5 _ _ _ ?_
   refine X4 _ _ _ ?_
   refine E3 _ _ ?_
   refine A2 _ _ ?_
   exact jn ⟨_,sj h9⟩ []
  ·obtain ⟨hx14,hd2,hlt15⟩:=D5 hd11
   replace h9:=(aB1.eq_2 _ _ _ _ _).symm.trans h9
   refine j5 hn ?_
   refine j4.seqQ fun _ A6 _ _=>?_
   refine l9 hn ?_
   refine j3 hlt15 ?_
   refine q9 hn ?_
   refine A6 _ _ ?_
   refine j4.seqQ fun _ A7 _ _=>?_
   refine j4.blkQ fun _ A8 _ _ _=>?_
   refine j5 hn ?_
   refine aB2 hx14 ?_
   refine j5 hn ?_
   refine j4.seqQ fun _ A9 _ _=>?_
   refine j5 hn ?_
   refine y8 (fun hl16=>?_)
   refine j4.nilrow 6 206 5 64 rfl rfl rfl ?_
   obtain ⟨o21,h22,h9⟩:=j6 h9
   refine jk (ι:={ s // o21=s }) hn (fun s=>[]) (fun s=>[(206,.row 5 (List.map F3 s.1) 64)]) [(2,_),(3,_),(5,_),(6,_),(16,_),(17,_),(18,_)] [(2,_),(3,_),(5,_),(11,_),(501,_),(711,_)] (fun _ A10 _ _=>?_) ?_
   ·refine j4.blkQ fun _ _ E11 _ _=>?_
    refine lq (ι:={ q:((List Me)×Nat×(List Me)) // q.1=x13.methods.drop q.2.1∧aB3 N q.1 q.2.1 q.2.2=some o21 }) hn (fun q=>[(25,.int (q.1.2.1:Int))]) (fun q=>[(206,.row 5 (List.map F3 q.1.2.2) 64)]) (fun q=>q.1.1.length) [(2,_),(3,_),(5,_),(6,_),(16,_),(17,_),(18,_),(23,_),(24,_)] [(2,_),(3,_),(5,_),(11,_),(501,_),(711,_)] ⟨(x13.methods,0,([]:List Me)),rfl,h22⟩ [] ?_
    rintro ⟨⟨rest_,k17,v18⟩,hd24,h22⟩ _ A12 X12 _
    replace hd24:rest_=x13.methods.drop k17:=hd24
    rcases rest_ with _|⟨x26,rest23⟩
    ·have hlt28:=J7 hd24
     replace h22:=(aB3.eq_1 _ _ _).symm.trans h22
     refine j5 hn ?_
     refine j4.seqQ fun _ _ X13 _=>?_
     refine l9 hn ?_
     refine d9 hlt28 ?_
     refine H8 hn ?_
     refine X13 _ _ _ ?_
     refine X12 _ _ _ ?_
     refine E11 _ _ ?_
     refine A10 _ _ ?_
     exact jn ⟨_,sj h22⟩ []
    ·obtain ⟨hx27,hd2,hlt28⟩:=D5 hd24
     replace h22:=(aB3.eq_2 _ _ _ _ _).symm.trans h22
     refine j5 hn ?_
     refine j4.seqQ fun _ A14 _ _=>?_
     refine l9 hn ?_
     refine j3 hlt28 ?_
     refine q9 hn ?_
     refine A14 _ _ ?_
     refine j4.seqQ fun _ A15 _ _=>?_
     refine j4.blkQ fun _ A16 _ _ _=>?_
     refine j5 hn ?_
     refine aB2 hx27 ?_
     refine u6 hn ?_
     obtain ⟨r29,hr30,h22⟩:=j6 h22
     show p9 Try.prog _ _ _ _
     refine cA (U8 N x26 r29 hr30) ?_
     refine Exists.intro (List.map F3 [r29]) (And.intro (by repeat (first|exact trivial|exact rfl|(refine And.intro ?_ ?_))) ?_)
     obtain ⟨hg31,h22⟩:=O1 h22
     refine aO0 (l2:=[r29]) hg31 (F9 _) ?_
     refine A16 _ _ ?_
     refine A15 _ _ ?_
     refine kp [(2,_),(3,_),(5,_),(6,_),(16,_),(17,_),(18,_),(23,_),(24,_),(25,_)] [(2,_),(3,_),(5,_),(11,_),(33,_),(501,_),(711,_)] ?_
     refine u6 hn ?_
     refine Or.inl (And.intro (Z5 hx27 hl16) ?_)
     refine A12 _ _ ?_
     exact jn ⟨(rest23,k17+1,(v18++[r29])),hd2,h22⟩ [(206,33)] (by show rest23.length < rest23.length+1; omega)
   rintro ⟨v20,hv_⟩
   replace hv_:=hv_.symm
   subst hv_
   refine A9 _ _ ?_
   refine j5 hn ?_
   refine u6 hn ?_
   refine Or.inr ?_
   refine Exists.intro (List.map Y8 [(⟨x13.name,x13.super,x13.slots,v20⟩:Cl)]) (And.intro (by repeat (first|exact trivial|exact rfl|(refine And.intro ?_ ?_))) ?_)
   obtain ⟨hg32,h9⟩:=O1 h9
   refine aO0 (l2:=[(⟨x13.name,x13.super,x13.slots,v20⟩:Cl)]) hg32 (F9 _) ?_
   refine A8 _ _ ?_
   refine A7 _ _ ?_
   refine u6 hn ?_
   refine Or.inl (And.intro (Z5 hx14 hl3) ?_)
   refine A4 _ _ ?_
   exact jn ⟨(rest10,k4+1,(v5++[(⟨x13.name,x13.super,x13.slots,v20⟩:Cl)])),hd2,h9⟩ [(501,41)] (by show rest10.length < rest10.length+1; omega)
 rintro ⟨v7,hv_⟩
 replace hv_:=hv_.symm
 subst hv_
 refine A1 _ _ ?_
 refine j5 hn ?_
 refine j4.fzAll 501 rfl ?_
 refine got hn ?_
 obtain rfl:=Option.some.inj h
 exact ⟨[(0,11),(1,711)],_,fm⟩

/- class.Slots -/
set_option maxRecDepth 100000 in
set_option maxHeartbeats 8000000 in
theorem aP9 (N:Nat) (a0:Wd) (a1:Int) (r:Int) (h:aI3 N a0 a1=some r):Spec Try.prog 28 [] [.agg (eWd a0),.int a1] (.int r) [] []:=by
 refine Spec.of D9 Try.func28 rfl Try.ntmps28 (by kernel_rfl) rfl rfl rfl fun Γ hn=>?_
 unfold aI3 at h
 refine j5 hn ?_
 refine j5 hn ?_
 refine j4.seqQ fun _ A0 _ _=>?_
 refine j5 hn ?_
 obtain ⟨o9,h10,h⟩:=j6 h
 refine jk (ι:={ s // o9=s }) hn (fun s=>[(5,.int s.1)]) (fun s=>[]) [] [] (fun _ A1 _ _=>?_) ?_
 ·refine j4.blkQ fun _ _ E2 _ _=>?_
  refine lq (ι:={ q:(Nat×Int×Int×Int) // Y3 N a0 q.1 q.2.1 q.2.2.1 q.2.2.2=some o9 }) hn (fun q=>[(1,.int q.1.2.1),(5,.int q.1.2.2.1),(6,.int q.1.2.2.2)]) (fun q=>[]) (fun q=>q.1.1) [(2,_)] [(2,_)] ⟨(N,a1,(0:Int),(0:Int)),h10⟩ [] ?_
  rintro ⟨⟨n_,v2,v3,v4⟩,h10⟩ _ A3 X3 _
  rcases n_ with _|n13
  ·rw [Y3.eq_1] at h10
   cases h10
  ·replace h10:=(Y3.eq_2 _ _ _ _ _ _).symm.trans h10
   refine j4.seqQ fun _ A4 X4 _=>?_
   refine j4.seqQ fun _ A5 _ _=>?_
   obtain ⟨o16,h15,h10⟩:=j6 h10
   refine jk (ι:={ s // o16=s }) hn (fun s=>[(22,.bool s.1)]) (fun s=>[]) [(1,_),(2,_),(5,_),(6,_)] [(2,_)] (fun _ A6 _ _=>?_) ?_
   ·refine u6 hn ?_
    refine l5 h15 (fun hb17 h15=>?_) (fun hb17 h15=>?_)
    ·refine j3 hb17 ?_
     refine j3 hb17 ?_
     refine j3 hb17 ?_
     refine y8 (fun _=>?_)
     refine j3 hb17 ?_
     refine j3 hb17 ?_
     refine l5 h15 (fun hb19 h15=>?_) (fun hb19 h15=>?_)
     ·refine j3 hb19 ?_
      refine j3 hb19 ?_
      refine j3 hb19 ?_
      refine y8 (fun _=>?_)
      refine j3 hb19 ?_
      refine j3 hb19 ?_
      refine A6 _ _ ?_
      exact jn ⟨_,sj h15⟩ []
     refine d9 hb19 ?_
     refine d9 hb19 ?_
     refine d9 hb19 ?_
     refine d9 hb19 ?_
     refine d9 hb19 ?_
     refine A6 _ _ ?_
     exact jn ⟨_,sj h15⟩ []
    refine d9 hb17 ?_
    refine d9 hb17 ?_
    refine d9 hb17 ?_
    refine d9 hb17 ?_
    refine d9 hb17 ?_
    refine A6 _ _ ?_
    exact jn ⟨_,sj h15⟩ []
   rintro ⟨v14,hv_⟩
   replace hv_:=hv_.symm
   subst hv_
   refine A5 _ _ ?_
   refine l9 hn ?_
   refine l5 h10 (fun hb21 h10=>?_) (fun hb21 h10=>?_)
   ·refine q9 hn ?_
    refine A4 _ _ ?_
    refine j4.seqQ fun _ A7 _ _=>?_
    refine j4.blkQ fun _ A8 _ _ _=>?_
    refine j5 hn ?_
    obtain ⟨x22,hx23,h10⟩:=j6 h10
    refine Q3 hx23 ?_
    refine Or.inr ?_
    refine u6 hn ?_
    obtain ⟨x24,hx25,h10⟩:=j6 h10
    refine Q3 hx25 ?_
    refine A8 _ _ ?_
    refine A7 _ _ ?_
    refine kp [(1,_),(2,_),(5,_),(6,_)] [(2,_)] ?_
    refine u6 hn ?_
    refine Or.inr ?_
    refine A3 _ _ ?_
    exact jn ⟨(n13,x24.super,(wr (v3+x22.slots)),(wr (v4+(1:Int)))),h10⟩ [] (by show n13 < n13+1; omega)
   refine H8 hn ?_
   refine X4 _ _ _ ?_
   refine X3 _ _ _ ?_
   refine E2 _ _ ?_
   refine A1 _ _ ?_
   exact jn ⟨_,sj h10⟩ []
 rintro ⟨v8,hv_⟩
 replace hv_:=hv_.symm
 subst hv_
 refine A0 _ _ ?_
 refine j5 hn ?_
 refine got hn ?_
 obtain rfl:=Option.some.inj h
 exact ⟨[],_,fm⟩

/- qcref1.SameCode -/
set_option maxRecDepth 100000 in
set_option maxHeartbeats 8000000 in
theorem aW3 (N:Nat) (a0:(List Ins)) (a1:(List Ins)) (r:Bool) (h:U9 N a0 a1=some r):Spec Try.prog 37 [] [.sl 5 (List.map aE9 a0),.sl 5 (List.map aE9 a1)] (.bool r) [] []:=by
 refine Spec.of D9 Try.func37 rfl Try.ntmps37 (by kernel_rfl) rfl rfl rfl fun Γ hn=>?_
 unfold U9 at h
 refine j5 hn ?_
 refine j4.seqQ fun _ A0 _ R0=>?_
 refine j5 hn ?_
 refine y8 (fun _=>?_)
 refine y8 (fun _=>?_)
 refine l9 hn ?_
 refine l5 h (fun hb3 h=>?_) (fun hb3 h=>?_)
 ·refine j5 hn ?_
  refine got hn ?_
  refine R0 _ _ ?_
  obtain rfl:=Option.some.inj h
  exact ⟨[],_,fm⟩
 refine q9 hn ?_
 refine A0 _ _ ?_
 refine j4.seqQ fun _ A1 _ R1=>?_
 refine j5 hn ?_
 refine y8 (fun hl4=>?_)
 obtain ⟨o6,h7,h⟩:=j6 h
 refine jk (ι:={ s // o6=G8.next s }) hn (fun s=>[]) (fun s=>[]) [] [] (fun _ A2 _ R2=>?_) ?_
 ·refine j4.blkQ fun _ _ E3 _ R3=>?_
  refine lq (ι:={ q:((List Ins)×Nat) // q.1=a0.drop q.2∧J4 N a1 q.1 q.2=some o6 }) hn (fun q=>[(13,.int (q.1.2:Int))]) (fun q=>[]) (fun q=>q.1.1.length) [(0,_),(1,_),(12,_)] [] ⟨(a0,0),rfl,h7⟩ [] ?_
  rintro ⟨⟨rest_,k5⟩,hd9,h7⟩ _ A4 X4 R4
  replace hd9:rest_=a0.drop k5:=hd9
  rcases rest_ with _|⟨x11,rest8⟩
  ·have hlt13:=J7 hd9
   replace h7:=(J4.eq_1 _ _ _).symm.trans h7
   refine j5 hn ?_
   refine j4.seqQ fun _ _ X5 _=>?_
   refine l9 hn ?_
   refine d9 hlt13 ?_
   refine H8 hn ?_
   refine X5 _ _ _ ?_
   refine X4 _ _ _ ?_
   refine E3 _ _ ?_
   refine A2 _ _ ?_
   exact jn ⟨_,sj h7⟩ []
  ·obtain ⟨hx12,hd2,hlt13⟩:=D5 hd9
   replace h7:=(J4.eq_2 _ _ _ _ _).symm.trans h7
   refine j5 hn ?_
   refine j4.seqQ fun _ A6 _ _=>?_
   refine l9 hn ?_
   refine j3 hlt13 ?_
   refine q9 hn ?_
   refine A6 _ _ ?_
   refine j4.seqQ fun _ A7 _ R7=>?_
   refine j4.blkQ fun _ A8 _ _ R8=>?_
   refine j5 hn ?_
   refine j4.seqQ fun _ A9 _ _=>?_
   refine god hn (by kernel_rfl) ?_
   refine aB2 hx12 ?_
   obtain ⟨x14,hx15,h7⟩:=j6 h7
   refine Q3 hx15 ?_
   refine A9 _ _ ?_
   refine l9 hn ?_
   refine l5 h7 (fun hb16 h7=>?_) (fun hb16 h7=>?_)
   ·refine j5 hn ?_
    refine got hn ?_
    refine R8 _ _ ?_
    refine R7 _ _ ?_
    refine R4 _ _ ?_
    refine R3 _ _ ?_
    refine R2 _ _ ?_
    refine R1 _ _ ?_
    obtain rfl:=Option.some.inj h7
    obtain rfl:=Option.some.inj h
    exact ⟨[],_,fm⟩
   refine q9 hn ?_
   refine A8 _ _ ?_
   refine A7 _ _ ?_
   refine u6 hn ?_
   refine Or.inl (And.intro (Z5 hx12 hl4) ?_)
   refine A4 _ _ ?_
   exact jn ⟨(rest8,k5+1),hd2,h7⟩ [] (by show rest8.length < rest8.length+1; omega)
 rintro ⟨⟨⟩,rfl⟩
 refine A1 _ _ ?_
 refine j5 hn ?_
 refine got hn ?_
 obtain rfl:=Option.some.inj h
 exact ⟨[],_,fm⟩

/- slices.IndexFunc[[]api.Class,api.Class] -/
set_option maxRecDepth 100000 in
set_option maxHeartbeats 8000000 in
theorem Y5 (N:Nat) (a0:(List Cl)) (g1:Cl→Option Bool) {K1:Nat} {c1_0:List AV} (hg1:∀x0_ y_,g1 x0_=some y_→Spec Try.prog K1 [] [.agg (Y8 x0_),.fp c1_0] (.bool y_) [] []) (r:Int) (h:H9 N a0 g1=some r):Spec Try.prog 93 [] [.sl 4 (List.map Y8 a0),.fn K1 [.fp c1_0]] (.int r) [] []:=by
 refine Spec.of D9 Try.func93 rfl Try.ntmps93 (by kernel_rfl) rfl rfl rfl fun Γ hn=>?_
 unfold H9 at h
 refine j5 hn ?_
 refine j4.seqQ fun _ A0 _ R0=>?_
 refine j5 hn ?_
 refine y8 (fun hl1=>?_)
 obtain ⟨o3,h4,h⟩:=j6 h
 refine jk (ι:={ s // o3=G8.next s }) hn (fun s=>[]) (fun s=>[]) [] [] (fun _ A1 _ R1=>?_) ?_
 ·refine j4.blkQ fun _ _ E2 _ R2=>?_
  refine lq (ι:={ q:((List Cl)×Nat) // q.1=a0.drop q.2∧x9 N g1 q.1 q.2=some o3 }) hn (fun q=>[(8,.int (q.1.2:Int))]) (fun q=>[]) (fun q=>q.1.1.length) [(0,_),(1,_),(7,_)] [] ⟨(a0,0),rfl,h4⟩ [] ?_
  rintro ⟨⟨rest_,k2⟩,hd6,h4⟩ _ A3 X3 R3
  replace hd6:rest_=a0.drop k2:=hd6
  rcases rest_ with _|⟨x8,rest5⟩
  ·have hlt10:=J7 hd6
   replace h4:=(x9.eq_1 _ _ _).symm.trans h4
   refine j5 hn ?_
   refine j4.seqQ fun _ _ X4 _=>?_
   refine l9 hn ?_
   refine d9 hlt10 ?_
   refine H8 hn ?_
   refine X4 _ _ _ ?_
   refine X3 _ _ _ ?_
   refine E2 _ _ ?_
   refine A1 _ _ ?_
   exact jn ⟨_,sj h4⟩ []
  ·obtain ⟨hx9,hd2,hlt10⟩:=D5 hd6
   replace h4:=(x9.eq_2 _ _ _ _ _).symm.trans h4
   refine j5 hn ?_
   refine j4.seqQ fun _ A5 _ _=>?_
   refine l9 hn ?_
   refine j3 hlt10 ?_
   refine q9 hn ?_
   refine A5 _ _ ?_
   refine j4.seqQ fun _ A6 _ R6=>?_
   refine j4.blkQ fun _ A7 _ _ R7=>?_
   refine j5 hn ?_
   refine j5 hn ?_
   refine aB2 hx9 ?_
   obtain ⟨r11,hr12,h4⟩:=j6 h4
   show p9 Try.prog _ _ _ _
   refine cA (hg1 _ _ hr12) ?_
   refine l9 hn ?_
   refine l5 h4 (fun hb13 h4=>?_) (fun hb13 h4=>?_)
   ·refine j5 hn ?_
    refine got hn ?_
    refine R7 _ _ ?_
    refine R6 _ _ ?_
    refine R3 _ _ ?_
    refine R2 _ _ ?_
    refine R1 _ _ ?_
    refine R0 _ _ ?_
    obtain rfl:=Option.some.inj h4
    obtain rfl:=Option.some.inj h
    exact ⟨[],_,fm⟩
   refine q9 hn ?_
   refine A7 _ _ ?_
   refine A6 _ _ ?_
   refine u6 hn ?_
   refine Or.inl (And.intro (Z5 hx9 hl1) ?_)
   refine A3 _ _ ?_
   exact jn ⟨(rest5,k2+1),hd2,h4⟩ [] (by show rest5.length < rest5.length+1; omega)
 rintro ⟨⟨⟩,rfl⟩
 refine A0 _ _ ?_
 refine j5 hn ?_
 refine got hn ?_
 obtain rfl:=Option.some.inj h
 exact ⟨[],_,fm⟩

/- slices.ContainsFunc[[]api.Class,api.Class] -/
set_option maxRecDepth 100000 in
set_option maxHeartbeats 8000000 in
theorem V7 (N:Nat) (a0:(List Cl)) (g1:Cl→Option Bool) {K1:Nat} {c1_0:List AV} (hg1:∀x0_ y_,g1 x0_=some y_→Spec Try.prog K1 [] [.agg (Y8 x0_),.fp c1_0] (.bool y_) [] []) (r:Bool) (h:G5 N a0 g1=some r):Spec Try.prog 68 [] [.sl 4 (List.map Y8 a0),.fn K1 [.fp c1_0]] (.bool r) [] []:=by
 refine Spec.of D9 Try.func68 rfl Try.ntmps68 (by kernel_rfl) rfl rfl rfl fun Γ hn=>?_
 unfold G5 at h
 refine j5 hn ?_
 refine j5 hn ?_
 obtain ⟨r1,hr2,h⟩:=j6 h
 show p9 Try.prog _ _ _ _
 refine cA (Y5 N a0 g1 hg1 r1 hr2) ?_
 refine got hn ?_
 obtain rfl:=Option.some.inj h
 exact ⟨[],_,fm⟩

/- class.Make$1 -/
set_option maxRecDepth 100000 in
set_option maxHeartbeats 8000000 in
theorem bB2 (N:Nat) (a0:Cl) (b0:ByteArray) (r:Bool) (h:aE3 N a0 b0=some r):Spec Try.prog 69 [] [.agg (Y8 a0),.fp [.str b0]] (.bool r) [] []:=by
 refine Spec.of D9 Try.func69 rfl Try.ntmps69 (by kernel_rfl) rfl rfl rfl fun Γ hn=>?_
 unfold aE3 at h
 refine j5 hn ?_
 refine j5 hn ?_
 refine got hn ?_
 obtain rfl:=Option.some.inj h
 exact ⟨[],_,fm⟩

/- class.Own -/
set_option maxRecDepth 100000 in
set_option maxHeartbeats 8000000 in
theorem bD5 (N:Nat) (a0:Wd) (r:Wd) (h:aO4 N a0=some r):Spec Try.prog 25 [] [.agg (eWd a0)] (.agg [.own 0,.sl 2 (List.map eOb r.heap),.int r.epoch]) [(0,.row 4 (List.map Y8 r.classes) 67)] [0]:=by
 refine Spec.of D9 Try.func25 rfl Try.ntmps25 (by kernel_rfl) rfl rfl rfl fun Γ hn=>?_
 unfold aO4 at h
 refine j5 hn ?_
 refine j4.seqQ fun _ A0 _ _=>?_
 refine god hn (by kernel_rfl) ?_
 obtain ⟨r1,hr2,h⟩:=j6 h
 show p9 Try.prog _ _ _ _
 refine cA (((aL5 N a0.heap r1 hr2).sw 0 11).sw 1 711) ?_
 refine A0 _ _ ?_
 refine j4.seqQ fun _ A1 _ _=>?_
 refine j5 hn ?_
 refine y8 (fun hl3=>?_)
 refine j4.nilrowB 3 0 501 4 67 rfl rfl rfl rfl rfl rfl ?_
 obtain ⟨o8,h9,h⟩:=j6 h
 refine jk (ι:={ s // o8=s }) hn (fun s=>[]) (fun s=>[(501,.row 4 (List.map Y8 s.1) 67)]) [(2,_),(3,_)] [(2,_),(3,_),(11,_),(711,_)] (fun _ A2 _ _=>?_) ?_
 ·refine j4.blkQ fun _ _ E3 _ _=>?_
  refine lq (ι:={ q:((List Cl)×Nat×(List Cl)) // q.1=a0.classes.drop q.2.1∧Y2 N q.1 q.2.1 q.2.2=some o8 }) hn (fun q=>[(18,.int (q.1.2.1:Int))]) (fun q=>[(501,.row 4 (List.map Y8 q.1.2.2) 67)]) (fun q=>q.1.1.length) [(2,_),(3,_),(16,_),(17,_)] [(2,_),(3,_),(11,_),(711,_)] ⟨(a0.classes,0,([]:List Cl)),rfl,h9⟩ [] ?_
  rintro ⟨⟨rest_,k4,v5⟩,hd11,h9⟩ _ A4 X4 _
  replace hd11:rest_=a0.classes.drop k4:=hd11
  rcases rest_ with _|⟨x13,rest10⟩
  ·have hlt15:=J7 hd11
   replace h9:=(Y2.eq_1 _ _ _).symm.trans h9
   refine j5 hn ?_
   refine j4.seqQ fun _ _ X5 _=>?_
   refine l9 hn ?_
   refine d9 hlt15 ?_
   refine H8 hn ?_
   refine X5 _ _ _ ?_
   refine X4 _ _ _ ?_
   refine E3 _ _ ?_
   refine A2 _ _ ?_
   exact jn ⟨_,sj h9⟩ []
  ·obtain ⟨hx14,hd2,hlt15⟩:=D5 hd11
   replace h9:=(Y2.eq_2 _ _ _ _ _).symm.trans h9
   refine j5 hn ?_
   refine j4.seqQ fun _ A6 _ _=>?_
   refine l9 hn ?_
   refine j3 hlt15 ?_
   refine q9 hn ?_
   refine A6 _ _ ?_
   refine j4.seqQ fun _ A7 _ _=>?_
   refine j4.blkQ fun _ A8 _ _ _=>?_
   refine j5 hn ?_
   refine aB2 hx14 ?_
   refine j5 hn ?_
   refine j4.seqQ fun _ A9 _ _=>?_
   refine j5 hn ?_
   refine y8 (fun hl16=>?_)
   refine j4.nilrow 6 206 5 64 rfl rfl rfl ?_
   obtain ⟨o21,h22,h9⟩:=j6 h9
   refine jk (ι:={ s // o21=s }) hn (fun s=>[]) (fun s=>[(206,.row 5 (List.map F3 s.1) 64)]) [(2,_),(3,_),(5,_),(6,_),(16,_),(17,_),(18,_)] [(2,_),(3,_),(5,_),(11,_),(501,_),(711,_)] (fun _ A10 _ _=>?_) ?_
   ·refine j4.blkQ fun _ _ E11 _ _=>?_
    refine lq (ι:={ q:((List Me)×Nat×(List Me)) // q.1=x13.methods.drop q.2.1∧Y6 N q.1 q.2.1 q.2.2=some o21 }) hn (fun q=>[(25,.int (q.1.2.1:Int))]) (fun q=>[(206,.row 5 (List.map F3 q.1.2.2) 64)]) (fun q=>q.1.1.length) [(2,_),(3,_),(5,_),(6,_),(16,_),(17,_),(18,_),(23,_),(24,_)] [(2,_),(3,_),(5,_),(11,_),(501,_),(711,_)] ⟨(x13.methods,0,([]:List Me)),rfl,h22⟩ [] ?_
    rintro ⟨⟨rest_,k17,v18⟩,hd24,h22⟩ _ A12 X12 _
    replace hd24:rest_=x13.methods.drop k17:=hd24
    rcases rest_ with _|⟨x26,rest23⟩
    ·have hlt28:=J7 hd24
     replace h22:=(Y6.eq_1 _ _ _).symm.trans h22
     refine j5 hn ?_
     refine j4.seqQ fun _ _ X13 _=>?_
     refine l9 hn ?_
     refine d9 hlt28 ?_
     refine H8 hn ?_
     refine X13 _ _ _ ?_
     refine X12 _ _ _ ?_
     refine E11 _ _ ?_
     refine A10 _ _ ?_
     exact jn ⟨_,sj h22⟩ []
    ·obtain ⟨hx27,hd2,hlt28⟩:=D5 hd24
     replace h22:=(Y6.eq_2 _ _ _ _ _).symm.trans h22
     refine j5 hn ?_
     refine j4.seqQ fun _ A14 _ _=>?_
     refine l9 hn ?_
     refine j3 hlt28 ?_
     refine q9 hn ?_
     refine A14 _ _ ?_
     refine j4.seqQ fun _ A15 _ _=>?_
     refine j4.blkQ fun _ A16 _ _ _=>?_
     refine j5 hn ?_
     refine aB2 hx27 ?_
     refine u6 hn ?_
     obtain ⟨r29,hr30,h22⟩:=j6 h22
     show p9 Try.prog _ _ _ _
     refine cA (U8 N x26 r29 hr30) ?_
     refine Exists.intro (List.map F3 [r29]) (And.intro (by repeat (first|exact trivial|exact rfl|(refine And.intro ?_ ?_))) ?_)
     obtain ⟨hg31,h22⟩:=O1 h22
     refine aO0 (l2:=[r29]) hg31 (F9 _) ?_
     refine A16 _ _ ?_
     refine A15 _ _ ?_
     refine kp [(2,_),(3,_),(5,_),(6,_),(16,_),(17,_),(18,_),(23,_),(24,_),(25,_)] [(2,_),(3,_),(5,_),(11,_),(33,_),(501,_),(711,_)] ?_
     refine u6 hn ?_
     refine Or.inl (And.intro (Z5 hx27 hl16) ?_)
     refine A12 _ _ ?_
     exact jn ⟨(rest23,k17+1,(v18++[r29])),hd2,h22⟩ [(206,33)] (by show rest23.length < rest23.length+1; omega)
   rintro ⟨v20,hv_⟩
   replace hv_:=hv_.symm
   subst hv_
   refine A9 _ _ ?_
   refine j5 hn ?_
   refine u6 hn ?_
   refine Or.inr ?_
   refine Exists.intro (List.map Y8 [(⟨x13.name,x13.super,x13.slots,v20⟩:Cl)]) (And.intro (by repeat (first|exact trivial|exact rfl|(refine And.intro ?_ ?_))) ?_)
   obtain ⟨hg32,h9⟩:=O1 h9
   refine aO0 (l2:=[(⟨x13.name,x13.super,x13.slots,v20⟩:Cl)]) hg32 (F9 _) ?_
   refine A8 _ _ ?_
   refine A7 _ _ ?_
   refine u6 hn ?_
   refine Or.inl (And.intro (Z5 hx14 hl3) ?_)
   refine A4 _ _ ?_
   exact jn ⟨(rest10,k4+1,(v5++[(⟨x13.name,x13.super,x13.slots,v20⟩:Cl)])),hd2,h9⟩ [(501,41)] (by show rest10.length < rest10.length+1; omega)
 rintro ⟨v7,hv_⟩
 replace hv_:=hv_.symm
 subst hv_
 refine A1 _ _ ?_
 refine j5 hn ?_
 refine j4.fzAllD 11 rfl ?_
 refine got hn ?_
 obtain rfl:=Option.some.inj h
 exact ⟨[(0,501)],_,fm⟩

/- class.Make -/
set_option maxRecDepth 100000 in
set_option maxHeartbeats 8000000 in
theorem aT4 (N:Nat) (a0:Wd) (a1:ByteArray) (a2:Int) (a3:Int) (r:(Wd×Int×Int)) (h:aK6 N a0 a1 a2 a3=some r):Spec Try.prog 32 [] [.agg (eWd a0),.str a1,.int a2,.int a3] (.tup [.agg (eWd r.1),.int r.2.1,.int r.2.2]) [] []:=by
 refine Spec.of D9 Try.func32 rfl Try.ntmps32 (by kernel_rfl) rfl rfl rfl fun Γ hn=>?_
 unfold aK6 at h
 refine j5 hn ?_
 refine j4.seqQ fun _ A0 _ R0=>?_
 refine j4.blkQ fun _ A1 _ _ R1=>?_
 refine j4.seqQ fun _ A2 _ _=>?_
 refine j4.gh (Gh.fzBox 5 5 rfl rfl rfl) (fun _=>?_)
 obtain ⟨o3,h2,h⟩:=j6 h
 refine jk (ι:={ s // o3=s }) hn (fun s=>[(12,.bool s.1)]) (fun s=>[]) [(2,_),(3,_),(4,_),(5,_),(8,_)] [(4,_),(8,_)] (fun _ A3 _ _=>?_) ?_
 ·refine u6 hn ?_
  obtain ⟨r4,hr5,h2⟩:=j6 h2
  show p9 Try.prog _ _ _ _
  refine cA (aT6 N a1 r4 hr5) ?_
  refine l5 h2 (fun hb6 h2=>?_) (fun hb6 h2=>?_)
  ·refine j3 hb6 ?_
   refine j3 hb6 ?_
   refine j3 hb6 ?_
   refine j3 hb6 ?_
   refine A3 _ _ ?_
   exact jn ⟨_,sj h2⟩ []
  refine d9 hb6 ?_
  refine d9 hb6 ?_
  refine d9 hb6 ?_
  obtain ⟨r7,hr8,h2⟩:=j6 h2
  show p9 Try.prog _ _ _ _
  refine cA (V7 N a0.classes (fun x0_=>aE3 N x0_ a1) (fun x0_ y_ hy_=>bB2 N x0_ a1 y_ hy_) r7 hr8) ?_
  refine d9 hb6 ?_
  refine A3 _ _ ?_
  exact jn ⟨_,sj h2⟩ []
 rintro ⟨v1,hv_⟩
 replace hv_:=hv_.symm
 subst hv_
 refine A2 _ _ ?_
 refine l9 hn ?_
 refine l5 h (fun hb9 h=>?_) (fun hb9 h=>?_)
 ·refine j5 hn ?_
  refine got hn ?_
  refine R1 _ _ ?_
  refine R0 _ _ ?_
  obtain rfl:=Option.some.inj h
  exact ⟨[],_,fm⟩
 refine j4.seqQ fun _ A4 _ _=>?_
 obtain ⟨o12,h11,h⟩:=j6 h
 refine jk (ι:={ s // o12=s }) hn (fun s=>[(23,.bool s.1)]) (fun s=>[]) [(2,_),(3,_),(4,_),(5,_),(8,_)] [(4,_),(8,_)] (fun _ A5 _ _=>?_) ?_
 ·refine u6 hn ?_
  refine l5 h11 (fun hb13 h11=>?_) (fun hb13 h11=>?_)
  ·refine j3 hb13 ?_
   refine j3 hb13 ?_
   refine j3 hb13 ?_
   refine j3 hb13 ?_
   refine j3 hb13 ?_
   refine A5 _ _ ?_
   exact jn ⟨_,sj h11⟩ []
  refine d9 hb13 ?_
  refine d9 hb13 ?_
  refine d9 hb13 ?_
  refine y8 (fun _=>?_)
  refine d9 hb13 ?_
  refine d9 hb13 ?_
  refine A5 _ _ ?_
  exact jn ⟨_,sj h11⟩ []
 rintro ⟨v10,hv_⟩
 replace hv_:=hv_.symm
 subst hv_
 refine A4 _ _ ?_
 refine l9 hn ?_
 refine l5 h (fun hb15 h=>?_) (fun hb15 h=>?_)
 ·refine j5 hn ?_
  refine got hn ?_
  refine R1 _ _ ?_
  refine R0 _ _ ?_
  obtain rfl:=Option.some.inj h
  exact ⟨[],_,fm⟩
 refine j4.seqQ fun _ A6 _ _=>?_
 obtain ⟨o18,h17,h⟩:=j6 h
 refine jk (ι:={ s // o18=s }) hn (fun s=>[(34,.bool s.1)]) (fun s=>[]) [(2,_),(3,_),(4,_),(5,_),(8,_)] [(4,_),(8,_)] (fun _ A7 _ _=>?_) ?_
 ·refine u6 hn ?_
  refine l5 h17 (fun hb19 h17=>?_) (fun hb19 h17=>?_)
  ·refine j3 hb19 ?_
   refine j3 hb19 ?_
   refine j3 hb19 ?_
   refine j3 hb19 ?_
   refine j3 hb19 ?_
   refine j3 hb19 ?_
   refine A7 _ _ ?_
   exact jn ⟨_,sj h17⟩ []
  refine d9 hb19 ?_
  refine d9 hb19 ?_
  refine d9 hb19 ?_
  obtain ⟨r20,hr21,h17⟩:=j6 h17
  show p9 Try.prog _ _ _ _
  refine cA (aP9 N a0 a2 r20 hr21) ?_
  refine d9 hb19 ?_
  refine Or.inr ?_
  refine d9 hb19 ?_
  refine d9 hb19 ?_
  refine l5 h17 (fun hb22 h17=>?_) (fun hb22 h17=>?_)
  ·refine j3 hb22 ?_
   refine j3 hb22 ?_
   refine j3 hb22 ?_
   refine j3 hb22 ?_
   refine A7 _ _ ?_
   exact jn ⟨_,sj h17⟩ []
  refine d9 hb22 ?_
  refine d9 hb22 ?_
  refine l5 h17 (fun hb23 h17=>?_) (fun hb23 h17=>?_)
  ·refine j3 hb23 ?_
   refine d9 hb22 ?_
   refine j3 hb23 ?_
   refine d9 hb22 ?_
   refine A7 _ _ ?_
   exact jn ⟨_,sj h17⟩ []
  refine d9 hb23 ?_
  refine d9 hb22 ?_
  refine d9 hb23 ?_
  refine d9 hb22 ?_
  refine A7 _ _ ?_
  exact jn ⟨_,sj h17⟩ []
 rintro ⟨v16,hv_⟩
 replace hv_:=hv_.symm
 subst hv_
 refine A6 _ _ ?_
 refine l9 hn ?_
 refine l5 h (fun hb24 h=>?_) (fun hb24 h=>?_)
 ·refine j5 hn ?_
  refine got hn ?_
  refine R1 _ _ ?_
  refine R0 _ _ ?_
  obtain rfl:=Option.some.inj h
  exact ⟨[],_,fm⟩
 refine j5 hn ?_
 refine y8 (fun _=>?_)
 refine l9 hn ?_
 refine l5 h (fun hb26 h=>?_) (fun hb26 h=>?_)
 ·refine j5 hn ?_
  refine got hn ?_
  refine R1 _ _ ?_
  refine R0 _ _ ?_
  obtain rfl:=Option.some.inj h
  exact ⟨[],_,fm⟩
 refine q9 hn ?_
 refine A1 _ _ ?_
 refine A0 _ _ ?_
 refine j5 hn ?_
 obtain ⟨r27,hr28,h⟩:=j6 h
 show p9 Try.prog _ _ _ _
 refine cA ((bD5 N a0 r27 hr28).sw 0 61) ?_
 refine j5 hn ?_
 refine Or.inr ?_
 refine Exists.intro (List.map Y8 [(⟨a1,a2,a3,[]⟩:Cl)]) (And.intro (by repeat (first|exact trivial|exact rfl|(refine And.intro ?_ ?_))) ?_)
 obtain ⟨hg29,h⟩:=O1 h
 refine aO0 (l2:=[(⟨a1,a2,a3,[]⟩:Cl)]) hg29 (F9 _) ?_
 refine j4.seqQ fun _ A8 _ _=>?_
 refine kp [(4,_),(8,_),(11,_)] [(4,_),(8,_),(11,_),(69,_)] ?_
 refine god hn (by kernel_rfl) ?_
 refine y8 (fun _=>?_)
 refine A8 _ _ ?_
 refine j4.fzAll 69 rfl ?_
 refine got hn ?_
 obtain rfl:=Option.some.inj h
 exact ⟨[],_,fm⟩

/- class.Own -/
set_option maxRecDepth 100000 in
set_option maxHeartbeats 8000000 in
theorem bB7 (N:Nat) (a0:Wd) (r:Wd) (h:aD0 N a0=some r):Spec Try.prog 25 [] [.agg (eWd a0)] (.agg [.own 0,.sl 2 (List.map eOb r.heap),.int r.epoch]) [(0,.deep 4 67 [(3,(5,64))] (List.map Y8 r.classes) [] 1),(1,.gone)] [0,1]:=by
 refine Spec.of D9 Try.func25 rfl Try.ntmps25 (by kernel_rfl) rfl rfl rfl fun Γ hn=>?_
 unfold aD0 at h
 refine j5 hn ?_
 refine j4.seqQ fun _ A0 _ _=>?_
 refine god hn (by kernel_rfl) ?_
 obtain ⟨r1,hr2,h⟩:=j6 h
 show p9 Try.prog _ _ _ _
 refine cA (((aL5 N a0.heap r1 hr2).sw 0 11).sw 1 711) ?_
 refine A0 _ _ ?_
 refine j4.seqQ fun _ A1 _ _=>?_
 refine j5 hn ?_
 refine y8 (fun hl3=>?_)
 refine j4.nilrowB 3 0 501 4 67 rfl rfl rfl rfl rfl rfl ?_
 refine j4.gh (Gh.toDeep 501 502 [(3,(5,64))] rfl rfl rfl rfl) (fun _=>?_)
 obtain ⟨o8,h9,h⟩:=j6 h
 refine jk (ι:={ s // o8=s }) hn (fun s=>[]) (fun s=>[(501,.deep 4 67 [(3,(5,64))] (List.map Y8 s.1) [] 502)]) [(2,_),(3,_)] [(2,_),(3,_),(11,_),(502,_),(711,_)] (fun _ A2 _ _=>?_) ?_
 ·refine j4.blkQ fun _ _ E3 _ _=>?_
  refine lq (ι:={ q:((List Cl)×Nat×(List Cl)) // q.1=a0.classes.drop q.2.1∧M4 N q.1 q.2.1 q.2.2=some o8 }) hn (fun q=>[(18,.int (q.1.2.1:Int))]) (fun q=>[(501,.deep 4 67 [(3,(5,64))] (List.map Y8 q.1.2.2) [] 502)]) (fun q=>q.1.1.length) [(2,_),(3,_),(16,_),(17,_)] [(2,_),(3,_),(11,_),(502,_),(711,_)] ⟨(a0.classes,0,([]:List Cl)),rfl,h9⟩ [] ?_
  rintro ⟨⟨rest_,k4,v5⟩,hd11,h9⟩ _ A4 X4 _
  replace hd11:rest_=a0.classes.drop k4:=hd11
  rcases rest_ with _|⟨x13,rest10⟩
  ·have hlt15:=J7 hd11
   replace h9:=(M4.eq_1 _ _ _).symm.trans h9
   refine j5 hn ?_
   refine j4.seqQ fun _ _ X5 _=>?_
   refine l9 hn ?_
   refine d9 hlt15 ?_
   refine H8 hn ?_
   refine X5 _ _ _ ?_
   refine X4 _ _ _ ?_
   refine E3 _ _ ?_
   refine A2 _ _ ?_
   exact jn ⟨_,sj h9⟩ []
  ·obtain ⟨hx14,hd2,hlt15⟩:=D5 hd11
   replace h9:=(M4.eq_2 _ _ _ _ _).symm.trans h9
   refine j5 hn ?_
   refine j4.seqQ fun _ A6 _ _=>?_
   refine l9 hn ?_
   refine j3 hlt15 ?_
   refine q9 hn ?_
   refine A6 _ _ ?_
   refine j4.seqQ fun _ A7 _ _=>?_
   refine j4.blkQ fun _ A8 _ _ _=>?_
   refine j5 hn ?_
   refine aB2 hx14 ?_
   refine j5 hn ?_
   refine j4.seqQ fun _ A9 _ _=>?_
   refine j5 hn ?_
   refine y8 (fun hl16=>?_)
   refine j4.nilrow 6 206 5 64 rfl rfl rfl ?_
   obtain ⟨o21,h22,h9⟩:=j6 h9
   refine jk (ι:={ s // o21=s }) hn (fun s=>[]) (fun s=>[(206,.row 5 (List.map F3 s.1) 64)]) [(2,_),(3,_),(5,_),(6,_),(16,_),(17,_),(18,_)] [(2,_),(3,_),(5,_),(11,_),(501,_),(502,_),(711,_)] (fun _ A10 _ _=>?_) ?_
   ·refine j4.blkQ fun _ _ E11 _ _=>?_
    refine lq (ι:={ q:((List Me)×Nat×(List Me)) // q.1=x13.methods.drop q.2.1∧M5 N q.1 q.2.1 q.2.2=some o21 }) hn (fun q=>[(25,.int (q.1.2.1:Int))]) (fun q=>[(206,.row 5 (List.map F3 q.1.2.2) 64)]) (fun q=>q.1.1.length) [(2,_),(3,_),(5,_),(6,_),(16,_),(17,_),(18,_),(23,_),(24,_)] [(2,_),(3,_),(5,_),(11,_),(501,_),(502,_),(711,_)] ⟨(x13.methods,0,([]:List Me)),rfl,h22⟩ [] ?_
    rintro ⟨⟨rest_,k17,v18⟩,hd24,h22⟩ _ A12 X12 _
    replace hd24:rest_=x13.methods.drop k17:=hd24
    rcases rest_ with _|⟨x26,rest23⟩
    ·have hlt28:=J7 hd24
     replace h22:=(M5.eq_1 _ _ _).symm.trans h22
     refine j5 hn ?_
     refine j4.seqQ fun _ _ X13 _=>?_
     refine l9 hn ?_
     refine d9 hlt28 ?_
     refine H8 hn ?_
     refine X13 _ _ _ ?_
     refine X12 _ _ _ ?_
     refine E11 _ _ ?_
     refine A10 _ _ ?_
     exact jn ⟨_,sj h22⟩ []
    ·obtain ⟨hx27,hd2,hlt28⟩:=D5 hd24
     replace h22:=(M5.eq_2 _ _ _ _ _).symm.trans h22
     refine j5 hn ?_
     refine j4.seqQ fun _ A14 _ _=>?_
     refine l9 hn ?_
     refine j3 hlt28 ?_
     refine q9 hn ?_
     refine A14 _ _ ?_
     refine j4.seqQ fun _ A15 _ _=>?_
     refine j4.blkQ fun _ A16 _ _ _=>?_
     refine j5 hn ?_
     refine aB2 hx27 ?_
     refine u6 hn ?_
     obtain ⟨r29,hr30,h22⟩:=j6 h22
     show p9 Try.prog _ _ _ _
     refine cA (U8 N x26 r29 hr30) ?_
     refine Exists.intro (List.map F3 [r29]) (And.intro (by repeat (first|exact trivial|exact rfl|(refine And.intro ?_ ?_))) ?_)
     obtain ⟨hg31,h22⟩:=O1 h22
     refine aO0 (l2:=[r29]) hg31 (F9 _) ?_
     refine A16 _ _ ?_
     refine A15 _ _ ?_
     refine kp [(2,_),(3,_),(5,_),(6,_),(16,_),(17,_),(18,_),(23,_),(24,_),(25,_)] [(2,_),(3,_),(5,_),(11,_),(33,_),(501,_),(502,_),(711,_)] ?_
     refine u6 hn ?_
     refine Or.inl (And.intro (Z5 hx27 hl16) ?_)
     refine A12 _ _ ?_
     exact jn ⟨(rest23,k17+1,(v18++[r29])),hd2,h22⟩ [(206,33)] (by show rest23.length < rest23.length+1; omega)
   rintro ⟨v20,hv_⟩
   replace hv_:=hv_.symm
   subst hv_
   refine A9 _ _ ?_
   refine j5 hn ?_
   refine u6 hn ?_
   refine Or.inl ?_
   refine Exists.intro [(3,(5,64))] (Exists.intro (Y8 (⟨x13.name,x13.super,x13.slots,v20⟩:Cl)) (Exists.intro [(206,.row 5 (List.map F3 v20) 64)] (And.intro rfl (And.intro rfl (And.intro rfl (And.intro (by decide) (And.intro (by decide) (And.intro rfl (And.intro rfl ?_)))))))))
   obtain ⟨hg32,h9⟩:=O1 h9
   refine b75 (l2:=[(⟨x13.name,x13.super,x13.slots,v20⟩:Cl)]) hg32 rfl rfl rfl rfl rfl (by decide) (by decide) ?_
   refine A8 _ _ ?_
   refine A7 _ _ ?_
   refine u6 hn ?_
   refine Or.inl (And.intro (Z5 hx14 hl3) ?_)
   refine A4 _ _ ?_
   exact jn ⟨(rest10,k4+1,(v5++[(⟨x13.name,x13.super,x13.slots,v20⟩:Cl)])),hd2,h9⟩ [(501,41),(502,741)] (by show rest10.length < rest10.length+1; omega)
 rintro ⟨v7,hv_⟩
 replace hv_:=hv_.symm
 subst hv_
 refine A1 _ _ ?_
 refine j5 hn ?_
 refine j4.fzAllD 11 rfl ?_
 refine got hn ?_
 obtain rfl:=Option.some.inj h
 exact ⟨[(0,501),(1,502)],_,fm⟩
end Go.Proofs.Ytahmeibkdhbngaa
