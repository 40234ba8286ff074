/- Walks after the mirrors. Printed by mir.py. -/
import Derived.Test.YtahmeibkdhbngaaMir
import Derived.Test.YtahmeibkdhbngaaYnew
import Derived.Test.YtahmeibkdhbngaaYins
import Derived.Test.YtahmeibkdhbngaaYcnew
namespace Go.Proofs.Ytahmeibkdhbngaa
open Go.RowKit
set_option linter.unusedVariables false
/- slices.BinarySearchFunc[[]api.Method,api.Method,string] -/
set_option maxRecDepth 100000 in
set_option maxHeartbeats 8000000 in
theorem H5 (N:Nat) (a0:(List Me)) (a1:ByteArray) (g2:Me→ByteArray→Option Int) {K2:Nat} (hg2:∀x0_ x1_ y_,g2 x0_ x1_=some y_→Spec Try.prog K2 [] [.agg (D6 x0_),.str x1_] (.int y_) [] []) (r:(Int×Bool)) (h:l9 N a0 a1 g2=some r):Spec Try.prog 67 [] [.sl 5 (List.map D6 a0),.str a1,.fn K2 []] (.tup [.int r.1,.bool r.2]) [] []:=by
 refine Spec.of G5 Try.func67 rfl Try.ntmps67 (by kernel_rfl) rfl rfl rfl fun Γ hn=>?_
 unfold l9 at h
 refine j5 hn ?_
 refine j5 hn ?_
 refine C9 (fun _=>?_)
 refine j5 hn ?_
 refine j4.seqQ fun _ A0 _ _=>?_
 obtain ⟨o8,h9,h⟩:=l5 h
 refine jk (ι:={ s // o8=s }) hn (fun s=>[(9,.int s.1)]) (fun s=>[]) [(0,_),(1,_),(2,_),(8,_)] [] (fun _ A1 _ _=>?_) ?_
 ·refine j4.blkQ fun _ _ E2 _ _=>?_
  refine lq (ι:={ q:(Nat×Int×Int) // l7 N a0 a1 g2 q.1 q.2.1 q.2.2=some o8 }) hn (fun q=>[(9,.int q.1.2.1),(10,.int q.1.2.2)]) (fun q=>[]) (fun q=>q.1.1) [(0,_),(1,_),(2,_),(8,_)] [] ⟨(N,(0:Int),(a0.length:Int)),h9⟩ [] ?_
  rintro ⟨⟨n_,v3,v4⟩,h9⟩ _ A3 X3 _
  rcases n_ with _|n12
  ·rw [l7.eq_1] at h9
   cases h9
  ·replace h9:=(l7.eq_2 _ _ _ _ _ _ _).symm.trans h9
   refine j4.seqQ fun _ A4 X4 _=>?_
   refine j5 hn ?_
   refine q8 hn ?_
   refine l8 h9 (fun hb13 h9=>?_) (fun hb13 h9=>?_)
   ·refine x9 hn ?_
    refine A4 _ _ ?_
    obtain ⟨o17,h16,h9⟩:=l5 h9
    refine jk (ι:={ s // o17=s }) hn (fun s=>[(9,.int s.1.1),(10,.int s.1.2)]) (fun s=>[]) [(0,_),(1,_),(2,_),(8,_)] [] (fun _ A5 _ _=>?_) ?_
    ·refine j4.blkQ fun _ A6 _ _ _=>?_
     refine j5 hn ?_
     refine Or.inr ?_
     obtain ⟨hg18,h16⟩:=K3 h16
     refine b63 hg18 ?_
     refine And.intro rfl ?_
     refine And.intro rfl ?_
     obtain ⟨hg19,h16⟩:=K3 h16
     refine b63 hg19 ?_
     refine j5 hn ?_
     obtain ⟨x20,hx21,h16⟩:=l5 h16
     refine U9 hx21 ?_
     obtain ⟨r22,hr23,h16⟩:=l5 h16
     show p9 Try.prog _ _ _ _
     refine cA (hg2 _ _ _ hr23) ?_
     obtain ⟨o27,h26,h16⟩:=l5 h16
     refine jk (ι:={ s // o27=s }) hn (fun s=>[(9,.int s.1.1),(10,.int s.1.2)]) (fun s=>[]) [(0,_),(1,_),(2,_),(8,_)] [] (fun _ A7 _ _=>?_) ?_
     ·refine q8 hn ?_
      refine l8 h26 (fun hb28 h26=>?_) (fun hb28 h26=>?_)
      ·refine kp [(0,_),(1,_),(2,_),(8,_),(10,_),(11,_)] [] ?_
       refine w9 hn ?_
       refine Or.inr ?_
       refine A7 _ _ ?_
       exact jn ⟨_,sj h26⟩ []
      refine kp [(0,_),(1,_),(2,_),(8,_),(9,_),(11,_)] [] ?_
      refine w9 hn ?_
      refine A7 _ _ ?_
      exact jn ⟨_,sj h26⟩ []
     rintro ⟨⟨v24,v25⟩,rfl⟩
     refine A6 _ _ ?_
     refine A5 _ _ ?_
     exact jn ⟨_,sj h16⟩ []
    rintro ⟨⟨v14,v15⟩,rfl⟩
    refine A3 _ _ ?_
    exact jn ⟨(n12,v14,v15),h9⟩ [] (by show n12 < n12+1; omega)
   refine I4 hn ?_
   refine X4 _ _ _ ?_
   refine X3 _ _ _ ?_
   refine E2 _ _ ?_
   refine A1 _ _ ?_
   exact jn ⟨_,sj h9⟩ []
 rintro ⟨v7,hv_⟩
 replace hv_:=hv_.symm
 subst hv_
 refine A0 _ _ ?_
 refine j4.seqQ fun _ A8 _ _=>?_
 obtain ⟨o31,h30,h⟩:=l5 h
 refine jk (ι:={ s // o31=s }) hn (fun s=>[(6,.int v7),(7,.bool s.1)]) (fun s=>[]) [] [] (fun _ A9 _ _=>?_) ?_
 ·refine w9 hn ?_
  refine l8 h30 (fun hb32 h30=>?_) (fun hb32 h30=>?_)
  ·refine j3 hb32 ?_
   refine j3 hb32 ?_
   refine j3 hb32 ?_
   obtain ⟨x33,hx34,h30⟩:=l5 h30
   refine U9 hx34 ?_
   refine j3 hb32 ?_
   refine j3 hb32 ?_
   refine j3 hb32 ?_
   obtain ⟨r35,hr36,h30⟩:=l5 h30
   show p9 Try.prog _ _ _ _
   refine cA (hg2 _ _ _ hr36) ?_
   refine j3 hb32 ?_
   refine j3 hb32 ?_
   refine A9 _ _ ?_
   exact jn ⟨_,sj h30⟩ []
  refine d9 hb32 ?_
  refine d9 hb32 ?_
  refine d9 hb32 ?_
  refine d9 hb32 ?_
  refine d9 hb32 ?_
  refine d9 hb32 ?_
  refine d9 hb32 ?_
  refine d9 hb32 ?_
  refine A9 _ _ ?_
  exact jn ⟨_,sj h30⟩ []
 rintro ⟨v29,hv_⟩
 replace hv_:=hv_.symm
 subst hv_
 refine A8 _ _ ?_
 refine got hn ?_
 obtain rfl:=Option.some.inj h
 exact ⟨[],_,fm⟩

/- cmp.isNaN[string] -/
set_option maxRecDepth 100000 in
set_option maxHeartbeats 8000000 in
theorem aF4 (N:Nat) (a0:ByteArray) (r:Bool) (h:cmp_isNaN_string N a0=some r):Spec Try.prog 120 [] [.str a0] (.bool r) [] []:=by
 refine Spec.of G5 Try.func120 rfl Try.ntmps120 (by kernel_rfl) rfl rfl rfl fun Γ hn=>?_
 unfold cmp_isNaN_string at h
 refine j5 hn ?_
 refine j5 hn ?_
 refine got hn ?_
 obtain rfl:=Option.some.inj h
 exact ⟨[],_,fm⟩

/- cmp.Compare[string] -/
set_option maxRecDepth 100000 in
set_option maxHeartbeats 8000000 in
theorem aR4 (N:Nat) (a0:ByteArray) (a1:ByteArray) (r:Int) (h:X8 N a0 a1=some r):Spec Try.prog 91 [] [.str a0,.str a1] (.int r) [] []:=by
 refine Spec.of G5 Try.func91 rfl Try.ntmps91 (by kernel_rfl) rfl rfl rfl fun Γ hn=>?_
 unfold X8 at h
 refine j5 hn ?_
 refine j5 hn ?_
 obtain ⟨r1,hr2,h⟩:=l5 h
 show p9 Try.prog _ _ _ _
 refine cA (aF4 N a0 r1 hr2) ?_
 refine j5 hn ?_
 obtain ⟨r3,hr4,h⟩:=l5 h
 show p9 Try.prog _ _ _ _
 refine cA (aF4 N a1 r3 hr4) ?_
 refine j4.seqQ fun _ A0 _ R0=>?_
 refine j5 hn ?_
 refine q8 hn ?_
 refine l8 h (fun hb5 h=>?_) (fun hb5 h=>?_)
 ·refine j4.seqQ fun _ A1 _ R1=>?_
  refine j5 hn ?_
  refine q8 hn ?_
  refine l8 h (fun hb6 h=>?_) (fun hb6 h=>?_)
  ·refine j5 hn ?_
   refine got hn ?_
   refine R1 _ _ ?_
   refine R0 _ _ ?_
   obtain rfl:=Option.some.inj h
   exact ⟨[],_,fm⟩
  refine x9 hn ?_
  refine A1 _ _ ?_
  refine j5 hn ?_
  refine got hn ?_
  refine R0 _ _ ?_
  obtain rfl:=Option.some.inj h
  exact ⟨[],_,fm⟩
 refine x9 hn ?_
 refine A0 _ _ ?_
 refine j4.seqQ fun _ A2 _ R2=>?_
 refine j5 hn ?_
 refine q8 hn ?_
 refine l8 h (fun hb7 h=>?_) (fun hb7 h=>?_)
 ·refine j5 hn ?_
  refine got hn ?_
  refine R2 _ _ ?_
  obtain rfl:=Option.some.inj h
  exact ⟨[],_,fm⟩
 refine x9 hn ?_
 refine A2 _ _ ?_
 refine j4.seqQ fun _ A3 _ R3=>?_
 refine j5 hn ?_
 refine q8 hn ?_
 refine l8 h (fun hb8 h=>?_) (fun hb8 h=>?_)
 ·refine j5 hn ?_
  refine got hn ?_
  refine R3 _ _ ?_
  obtain rfl:=Option.some.inj h
  exact ⟨[],_,fm⟩
 refine x9 hn ?_
 refine A3 _ _ ?_
 refine j4.seqQ fun _ A4 _ R4=>?_
 refine j5 hn ?_
 refine q8 hn ?_
 refine l8 h (fun hb9 h=>?_) (fun hb9 h=>?_)
 ·refine kp [] [] ?_
  refine j5 hn ?_
  refine got hn ?_
  refine R4 _ _ ?_
  obtain rfl:=Option.some.inj h
  exact ⟨[],_,fm⟩
 refine x9 hn ?_
 refine A4 _ _ ?_
 refine kp [] [] ?_
 refine j5 hn ?_
 refine got hn ?_
 obtain rfl:=Option.some.inj h
 exact ⟨[],_,fm⟩

/- class.order -/
set_option maxRecDepth 100000 in
set_option maxHeartbeats 8000000 in
theorem aP4 (N:Nat) (a0:Me) (a1:ByteArray) (r:Int) (h:J7 N a0 a1=some r):Spec Try.prog 64 [] [.agg (D6 a0),.str a1] (.int r) [] []:=by
 refine Spec.of G5 Try.func64 rfl Try.ntmps64 (by kernel_rfl) rfl rfl rfl fun Γ hn=>?_
 unfold J7 at h
 refine j5 hn ?_
 refine j5 hn ?_
 obtain ⟨r1,hr2,h⟩:=l5 h
 show p9 Try.prog _ _ _ _
 refine cA (aR4 N a0.name a1 r1 hr2) ?_
 refine got hn ?_
 obtain rfl:=Option.some.inj h
 exact ⟨[],_,fm⟩

/- class.Find -/
set_option maxRecDepth 100000 in
set_option maxHeartbeats 8000000 in
theorem bF9 (N:Nat) (a0:Wd) (a1:Int) (a2:ByteArray) (r:(Int×Int)) (h:aE9 N a0 a1 a2=some r):Spec Try.prog 30 [] [.agg (eWd a0),.int a1,.str a2] (.tup [.int r.1,.int r.2]) [] []:=by
 refine Spec.of G5 Try.func30 rfl Try.ntmps30 (by kernel_rfl) rfl rfl rfl fun Γ hn=>?_
 unfold aE9 at h
 refine j5 hn ?_
 refine j4.seqQ fun _ A0 _ R0=>?_
 refine j5 hn ?_
 obtain ⟨o6,h7,h⟩:=l5 h
 refine jk (ι:={ s // o6=U2.next s }) hn (fun s=>[]) (fun s=>[]) [] [] (fun _ A1 _ R1=>?_) ?_
 ·refine j4.blkQ fun _ _ E2 _ R2=>?_
  refine lq (ι:={ q:(Nat×Int×Int) // O1 N a0 a2 q.1 q.2.1 q.2.2=some o6 }) hn (fun q=>[(1,.int q.1.2.1),(8,.int q.1.2.2)]) (fun q=>[]) (fun q=>q.1.1) [(2,_),(3,_)] [(3,_)] ⟨(N,a1,(0:Int)),h7⟩ [] ?_
  rintro ⟨⟨n_,v2,v3⟩,h7⟩ _ A3 X3 R3
  rcases n_ with _|n10
  ·rw [O1.eq_1] at h7
   cases h7
  ·replace h7:=(O1.eq_2 _ _ _ _ _ _).symm.trans h7
   refine j4.seqQ fun _ A4 X4 _=>?_
   refine j4.seqQ fun _ A5 _ _=>?_
   obtain ⟨o13,h12,h7⟩:=l5 h7
   refine jk (ι:={ s // o13=s }) hn (fun s=>[(26,.bool s.1)]) (fun s=>[]) [(1,_),(2,_),(3,_),(8,_)] [(3,_)] (fun _ A6 _ _=>?_) ?_
   ·refine w9 hn ?_
    refine l8 h12 (fun hb14 h12=>?_) (fun hb14 h12=>?_)
    ·refine j3 hb14 ?_
     refine j3 hb14 ?_
     refine j3 hb14 ?_
     refine C9 (fun _=>?_)
     refine j3 hb14 ?_
     refine j3 hb14 ?_
     refine l8 h12 (fun hb16 h12=>?_) (fun hb16 h12=>?_)
     ·refine j3 hb16 ?_
      refine j3 hb16 ?_
      refine j3 hb16 ?_
      refine C9 (fun _=>?_)
      refine j3 hb16 ?_
      refine j3 hb16 ?_
      refine A6 _ _ ?_
      exact jn ⟨_,sj h12⟩ []
     refine d9 hb16 ?_
     refine d9 hb16 ?_
     refine d9 hb16 ?_
     refine d9 hb16 ?_
     refine d9 hb16 ?_
     refine A6 _ _ ?_
     exact jn ⟨_,sj h12⟩ []
    refine d9 hb14 ?_
    refine d9 hb14 ?_
    refine d9 hb14 ?_
    refine d9 hb14 ?_
    refine d9 hb14 ?_
    refine A6 _ _ ?_
    exact jn ⟨_,sj h12⟩ []
   rintro ⟨v11,hv_⟩
   replace hv_:=hv_.symm
   subst hv_
   refine A5 _ _ ?_
   refine q8 hn ?_
   refine l8 h7 (fun hb18 h7=>?_) (fun hb18 h7=>?_)
   ·refine x9 hn ?_
    refine A4 _ _ ?_
    refine j4.seqQ fun _ A7 _ R7=>?_
    refine j4.blkQ fun _ A8 _ _ R8=>?_
    refine j4.seqQ fun _ A9 _ R9=>?_
    refine j5 hn ?_
    obtain ⟨x19,hx20,h7⟩:=l5 h7
    refine U9 hx20 ?_
    obtain ⟨r21,hr22,h7⟩:=l5 h7
    show p9 Try.prog _ _ _ _
    refine cA (H5 N x19.methods a2 (fun x0_ x1_=>J7 N x0_ x1_) (fun x0_ x1_ y_ hy_=>aP4 N x0_ x1_ y_ hy_) r21 hr22) ?_
    refine kp [(1,_),(2,_),(3,_),(8,_),(9,_),(10,_)] [(3,_)] ?_
    refine j5 hn ?_
    refine q8 hn ?_
    refine l8 h7 (fun hb23 h7=>?_) (fun hb23 h7=>?_)
    ·refine j5 hn ?_
     refine got hn ?_
     refine R9 _ _ ?_
     refine R8 _ _ ?_
     refine R7 _ _ ?_
     refine R3 _ _ ?_
     refine R2 _ _ ?_
     refine R1 _ _ ?_
     refine R0 _ _ ?_
     obtain rfl:=Option.some.inj h7
     obtain rfl:=Option.some.inj h
     exact ⟨[],_,fm⟩
    refine x9 hn ?_
    refine A9 _ _ ?_
    refine w9 hn ?_
    obtain ⟨x24,hx25,h7⟩:=l5 h7
    refine U9 hx25 ?_
    refine A8 _ _ ?_
    refine A7 _ _ ?_
    refine w9 hn ?_
    refine Or.inr ?_
    refine A3 _ _ ?_
    exact jn ⟨(n10,x24.super,(wr (v3+(1:Int)))),h7⟩ [] (by show n10 < n10+1; omega)
   refine I4 hn ?_
   refine X4 _ _ _ ?_
   refine X3 _ _ _ ?_
   refine E2 _ _ ?_
   refine A1 _ _ ?_
   exact jn ⟨_,sj h7⟩ []
 rintro ⟨⟨⟩,rfl⟩
 refine A0 _ _ ?_
 refine j5 hn ?_
 refine got hn ?_
 obtain rfl:=Option.some.inj h
 exact ⟨[],_,fm⟩

/- qcref1.Name -/
set_option maxRecDepth 100000 in
set_option maxHeartbeats 8000000 in
theorem aQ1 (N:Nat) (a0:ByteArray) (r:Bool) (h:aA4 N a0=some r):Spec Try.prog 27 [] [.str a0] (.bool r) [] []:=by
 refine Spec.of G5 Try.func27 rfl Try.ntmps27 (by kernel_rfl) rfl rfl rfl fun Γ hn=>?_
 unfold aA4 at h
 refine j5 hn ?_
 refine j4.seqQ fun _ A0 _ R0=>?_
 refine j5 hn ?_
 intro _
 refine j4.rng 5 rfl (fun hrn=>?_)
 obtain ⟨o3,h4,h⟩:=l5 h
 refine jk (ι:={ s // o3=U2.next s }) hn (fun s=>[]) (fun s=>[]) [(0,_)] [] (fun _ A1 _ R1=>?_) ?_
 ·refine j4.blkQ fun _ _ E2 _ R2=>?_
  refine lq (ι:={ q:(Nat×Nat) // q.1=((a0.size:Int) - (q.2:Int)).toNat∧O7 N a0 q.1 q.2=some o3 }) hn (fun q=>[(6,.int (q.1.2:Int))]) (fun q=>[]) (fun q=>q.1.1) [(0,_),(5,_)] [] ⟨(((a0.size:Int) - ((0:Nat):Int)).toNat,0),rfl,h4⟩ [] ?_
  rintro ⟨⟨n_,k2⟩,hd6,h4⟩ _ A3 X3 R3
  replace hd6:n_=((a0.size:Int) - (k2:Int)).toNat:=hd6
  rcases n_ with _|n7
  ·have hlt10:=bY3 hd6
   replace h4:=(O7.eq_1 _ _ _).symm.trans h4
   refine j5 hn ?_
   refine j4.seqQ fun _ _ X4 _=>?_
   refine q8 hn ?_
   refine d9 hlt10 ?_
   refine I4 hn ?_
   refine X4 _ _ _ ?_
   refine X3 _ _ _ ?_
   refine E2 _ _ ?_
   refine A1 _ _ ?_
   exact jn ⟨_,sj h4⟩ []
  ·obtain ⟨hd2,hlt10⟩:=bQ7 hd6
   replace h4:=(O7.eq_2 _ _ _ _).symm.trans h4
   refine j5 hn ?_
   refine j4.seqQ fun _ A5 _ _=>?_
   refine q8 hn ?_
   refine j3 hlt10 ?_
   refine x9 hn ?_
   refine A5 _ _ ?_
   refine j4.seqQ fun _ A6 _ R6=>?_
   refine j4.blkQ fun _ A7 _ _ R7=>?_
   refine j5 hn ?_
   refine j4.seqQ fun _ A8 _ _=>?_
   obtain ⟨o13,h12,h4⟩:=l5 h4
   refine jk (ι:={ s // o13=s }) hn (fun s=>[(18,.bool s.1)]) (fun s=>[]) [(0,_),(5,_),(6,_)] [] (fun _ A9 _ _=>?_) ?_
   ·refine w9 hn ?_
    obtain ⟨u14,hx15,h12⟩:=l5 h12
    refine byM hx15 ?_
    refine And.intro rfl ?_
    refine l8 h12 (fun hb16 h12=>?_) (fun hb16 h12=>?_)
    ·refine j3 hb16 ?_
     refine j3 hb16 ?_
     refine j3 hb16 ?_
     refine j3 hb16 ?_
     refine A9 _ _ ?_
     exact jn ⟨_,sj h12⟩ []
    refine d9 hb16 ?_
    refine d9 hb16 ?_
    obtain ⟨u17,hx18,h12⟩:=l5 h12
    refine byM hx18 ?_
    refine d9 hb16 ?_
    refine And.intro rfl ?_
    refine d9 hb16 ?_
    refine A9 _ _ ?_
    exact jn ⟨_,sj h12⟩ []
   rintro ⟨v11,hv_⟩
   replace hv_:=hv_.symm
   subst hv_
   refine A8 _ _ ?_
   refine q8 hn ?_
   refine l8 h4 (fun hb19 h4=>?_) (fun hb19 h4=>?_)
   ·refine j5 hn ?_
    refine got hn ?_
    refine R7 _ _ ?_
    refine R6 _ _ ?_
    refine R3 _ _ ?_
    refine R2 _ _ ?_
    refine R1 _ _ ?_
    refine R0 _ _ ?_
    obtain rfl:=Option.some.inj h4
    obtain rfl:=Option.some.inj h
    exact ⟨[],_,fm⟩
   refine x9 hn ?_
   refine A7 _ _ ?_
   refine A6 _ _ ?_
   refine w9 hn ?_
   refine Or.inl (And.intro (b60 hlt10 hrn) ?_)
   refine A3 _ _ ?_
   exact jn ⟨(n7,k2+1),hd2,h4⟩ [] (by show n7 < n7+1; omega)
 rintro ⟨⟨⟩,rfl⟩
 refine A0 _ _ ?_
 refine j4.seqQ fun _ A10 _ _=>?_
 obtain ⟨o22,h21,h⟩:=l5 h
 refine jk (ι:={ s // o22=s }) hn (fun s=>[(2,.bool s.1)]) (fun s=>[]) [] [] (fun _ A11 _ _=>?_) ?_
 ·refine w9 hn ?_
  intro _
  refine l8 h21 (fun hb24 h21=>?_) (fun hb24 h21=>?_)
  ·refine j3 hb24 ?_
   intro _
   refine j3 hb24 ?_
   refine j3 hb24 ?_
   refine A11 _ _ ?_
   exact jn ⟨_,sj h21⟩ []
  refine d9 hb24 ?_
  refine d9 hb24 ?_
  refine d9 hb24 ?_
  refine A11 _ _ ?_
  exact jn ⟨_,sj h21⟩ []
 rintro ⟨v20,hv_⟩
 replace hv_:=hv_.symm
 subst hv_
 refine A10 _ _ ?_
 refine got hn ?_
 obtain rfl:=Option.some.inj h
 exact ⟨[],_,fm⟩

/- qcref1.Ups -/
set_option maxRecDepth 100000 in
set_option maxHeartbeats 8000000 in
theorem aU5 (N:Nat) (a0:Wd) (a1:Int) (r:(List Int)) (h:aC3 N a0 a1=some r):Spec Try.prog 66 [] [.agg (eWd a0),.int a1] (.own 0) [(0,.row 1 (List.map bB8 r) 3)] [0]:=by
 refine Spec.of G5 Try.func66 rfl Try.ntmps66 (by kernel_rfl) rfl rfl rfl fun Γ hn=>?_
 unfold aC3 at h
 refine j5 hn ?_
 refine j5 hn ?_
 refine j4.seqQ fun _ A0 _ _=>?_
 refine j4.nilrow 5 205 1 3 rfl rfl rfl ?_
 obtain ⟨o7,h8,h⟩:=l5 h
 refine jk (ι:={ s // o7=s }) hn (fun s=>[]) (fun s=>[(205,.row 1 (List.map bB8 s.1) 3)]) [(5,_)] [] (fun _ A1 _ _=>?_) ?_
 ·refine j4.blkQ fun _ _ E2 _ _=>?_
  refine lq (ι:={ q:(Nat×Int×(List Int)) // Q3 N a0 q.1 q.2.1 q.2.2=some o7 }) hn (fun q=>[(1,.int q.1.2.1)]) (fun q=>[(205,.row 1 (List.map bB8 q.1.2.2) 3)]) (fun q=>q.1.1) [(2,_),(5,_)] [(2,_)] ⟨(N,a1,([]:List Int)),h8⟩ [] ?_
  rintro ⟨⟨n_,v2,v3⟩,h8⟩ _ A3 X3 _
  rcases n_ with _|n11
  ·rw [Q3.eq_1] at h8
   cases h8
  ·replace h8:=(Q3.eq_2 _ _ _ _ _).symm.trans h8
   refine j4.seqQ fun _ A4 X4 _=>?_
   refine j4.seqQ fun _ A5 _ _=>?_
   obtain ⟨o14,h13,h8⟩:=l5 h8
   refine jk (ι:={ s // o14=s }) hn (fun s=>[(22,.bool s.1)]) (fun s=>[]) [(1,_),(2,_),(5,_)] [(2,_),(205,_)] (fun _ A6 _ _=>?_) ?_
   ·refine w9 hn ?_
    refine l8 h13 (fun hb15 h13=>?_) (fun hb15 h13=>?_)
    ·refine j3 hb15 ?_
     refine j3 hb15 ?_
     refine j3 hb15 ?_
     refine C9 (fun _=>?_)
     refine j3 hb15 ?_
     refine j3 hb15 ?_
     refine l8 h13 (fun hb17 h13=>?_) (fun hb17 h13=>?_)
     ·refine j3 hb17 ?_
      refine C9 (fun _=>?_)
      refine j3 hb17 ?_
      refine j3 hb17 ?_
      refine j3 hb17 ?_
      refine C9 (fun _=>?_)
      refine j3 hb17 ?_
      refine j3 hb17 ?_
      refine A6 _ _ ?_
      exact jn ⟨_,sj h13⟩ []
     refine d9 hb17 ?_
     refine d9 hb17 ?_
     refine d9 hb17 ?_
     refine d9 hb17 ?_
     refine d9 hb17 ?_
     refine d9 hb17 ?_
     refine A6 _ _ ?_
     exact jn ⟨_,sj h13⟩ []
    refine d9 hb15 ?_
    refine d9 hb15 ?_
    refine d9 hb15 ?_
    refine d9 hb15 ?_
    refine d9 hb15 ?_
    refine A6 _ _ ?_
    exact jn ⟨_,sj h13⟩ []
   rintro ⟨v12,hv_⟩
   replace hv_:=hv_.symm
   subst hv_
   refine A5 _ _ ?_
   refine q8 hn ?_
   refine l8 h8 (fun hb20 h8=>?_) (fun hb20 h8=>?_)
   ·refine x9 hn ?_
    refine A4 _ _ ?_
    refine j4.blkQ fun _ A7 _ _ _=>?_
    refine j5 hn ?_
    refine Exists.intro (List.map bB8 [v2]) (And.intro (by repeat (first|exact trivial|exact rfl|(refine And.intro ?_ ?_))) ?_)
    obtain ⟨hg21,h8⟩:=K3 h8
    refine aD5 (l2:=[v2]) hg21 (D5 _) ?_
    refine w9 hn ?_
    obtain ⟨x22,hx23,h8⟩:=l5 h8
    refine U9 hx23 ?_
    refine A7 _ _ ?_
    refine A3 _ _ ?_
    exact jn ⟨(n11,x22.super,(v3++[v2])),h8⟩ [(205,26)] (by show n11 < n11+1; omega)
   refine I4 hn ?_
   refine X4 _ _ _ ?_
   refine X3 _ _ _ ?_
   refine E2 _ _ ?_
   refine A1 _ _ ?_
   exact jn ⟨_,sj h8⟩ []
 rintro ⟨v6,hv_⟩
 replace hv_:=hv_.symm
 subst hv_
 refine A0 _ _ ?_
 refine j5 hn ?_
 refine got hn ?_
 obtain rfl:=Option.some.inj h
 exact ⟨[(0,205)],_,fm⟩

/- qcref1.Slots -/
set_option maxRecDepth 100000 in
set_option maxHeartbeats 8000000 in
theorem aN3 (N:Nat) (a0:Wd) (a1:Int) (r:Int) (h:Y7 N a0 a1=some r):Spec Try.prog 29 [] [.agg (eWd a0),.int a1] (.int r) [] []:=by
 refine Spec.of G5 Try.func29 rfl Try.ntmps29 (by kernel_rfl) rfl rfl rfl fun Γ hn=>?_
 unfold Y7 at h
 refine j5 hn ?_
 refine j5 hn ?_
 refine j4.seqQ fun _ A0 _ _=>?_
 refine j5 hn ?_
 obtain ⟨r1,hr2,h⟩:=l5 h
 show p9 Try.prog _ _ _ _
 refine cA ((aU5 N a0 a1 r1 hr2).sw 0 10) ?_
 refine C9 (fun hl3=>?_)
 obtain ⟨o8,h9,h⟩:=l5 h
 refine jk (ι:={ s // o8=s }) hn (fun s=>[(5,.int s.1)]) (fun s=>[]) [] [] (fun _ A1 _ _=>?_) ?_
 ·refine j4.blkQ fun _ _ E2 _ _=>?_
  refine lq (ι:={ q:((List Int)×Nat×Int) // q.1=r1.drop q.2.1∧N8 N a0 r1 q.1 q.2.1 q.2.2=some o8 }) hn (fun q=>[(5,.int q.1.2.2),(12,.int (q.1.2.1:Int))]) (fun q=>[]) (fun q=>q.1.1.length) [(2,_),(10,_),(11,_)] [(2,_),(10,_)] ⟨(r1,0,(0:Int)),rfl,h9⟩ [] ?_
  rintro ⟨⟨rest_,k4,v5⟩,hd11,h9⟩ _ A3 X3 _
  replace hd11:rest_=r1.drop k4:=hd11
  rcases rest_ with _|⟨x13,rest10⟩
  ·have hlt15:=I7 hd11
   replace h9:=(N8.eq_1 _ _ _ _ _).symm.trans h9
   refine j5 hn ?_
   refine j4.seqQ fun _ _ X4 _=>?_
   refine q8 hn ?_
   refine d9 hlt15 ?_
   refine I4 hn ?_
   refine X4 _ _ _ ?_
   refine X3 _ _ _ ?_
   refine E2 _ _ ?_
   refine A1 _ _ ?_
   exact jn ⟨_,sj h9⟩ []
  ·obtain ⟨hx14,hd2,hlt15⟩:=D9 hd11
   replace h9:=(N8.eq_2 _ _ _ _ _ _ _).symm.trans h9
   refine j5 hn ?_
   refine j4.seqQ fun _ A5 _ _=>?_
   refine q8 hn ?_
   refine j3 hlt15 ?_
   refine x9 hn ?_
   refine A5 _ _ ?_
   refine j4.seqQ fun _ A6 _ _=>?_
   refine j4.blkQ fun _ A7 _ _ _=>?_
   refine j5 hn ?_
   obtain ⟨x16,hx17,h9⟩:=l5 h9
   refine aX3 hx17 ?_
   refine ldM (K8 hx17).2 ?_
   refine w9 hn ?_
   obtain ⟨x18,hx19,h9⟩:=l5 h9
   refine U9 hx19 ?_
   refine Or.inr ?_
   refine A7 _ _ ?_
   refine A6 _ _ ?_
   refine kp [(2,_),(5,_),(10,_),(11,_),(12,_)] [(2,_),(10,_)] ?_
   refine w9 hn ?_
   refine Or.inl (And.intro (X9 hx14 hl3) ?_)
   refine A3 _ _ ?_
   exact jn ⟨(rest10,k4+1,(wr (v5+x18.slots))),hd2,h9⟩ [] (by show rest10.length < rest10.length+1; omega)
 rintro ⟨v7,hv_⟩
 replace hv_:=hv_.symm
 subst hv_
 refine A0 _ _ ?_
 refine j5 hn ?_
 refine got hn ?_
 obtain rfl:=Option.some.inj h
 exact ⟨[],_,fm⟩

/- qcref1.Find -/
set_option maxRecDepth 100000 in
set_option maxHeartbeats 8000000 in
theorem bB2 (N:Nat) (a0:Wd) (a1:Int) (a2:ByteArray) (r:(Int×Int)) (h:aD0 N a0 a1 a2=some r):Spec Try.prog 31 [] [.agg (eWd a0),.int a1,.str a2] (.tup [.int r.1,.int r.2]) [] []:=by
 refine Spec.of G5 Try.func31 rfl Try.ntmps31 (by kernel_rfl) rfl rfl rfl fun Γ hn=>?_
 unfold aD0 at h
 refine j5 hn ?_
 refine j4.seqQ fun _ A0 _ R0=>?_
 refine j5 hn ?_
 obtain ⟨r1,hr2,h⟩:=l5 h
 show p9 Try.prog _ _ _ _
 refine cA ((aU5 N a0 a1 r1 hr2).sw 0 14) ?_
 refine C9 (fun hl3=>?_)
 obtain ⟨o5,h6,h⟩:=l5 h
 refine jk (ι:={ s // o5=U2.next s }) hn (fun s=>[]) (fun s=>[]) [] [] (fun _ A1 _ R1=>?_) ?_
 ·refine j4.blkQ fun _ _ E2 _ R2=>?_
  refine lq (ι:={ q:((List Int)×Nat) // q.1=r1.drop q.2∧O4 N a0 a2 r1 q.1 q.2=some o5 }) hn (fun q=>[(16,.int (q.1.2:Int))]) (fun q=>[]) (fun q=>q.1.1.length) [(2,_),(3,_),(14,_),(15,_)] [(3,_),(14,_)] ⟨(r1,0),rfl,h6⟩ [] ?_
  rintro ⟨⟨rest_,k4⟩,hd8,h6⟩ _ A3 X3 R3
  replace hd8:rest_=r1.drop k4:=hd8
  rcases rest_ with _|⟨x10,rest7⟩
  ·have hlt12:=I7 hd8
   replace h6:=(O4.eq_1 _ _ _ _ _).symm.trans h6
   refine j5 hn ?_
   refine j4.seqQ fun _ _ X4 _=>?_
   refine q8 hn ?_
   refine d9 hlt12 ?_
   refine I4 hn ?_
   refine X4 _ _ _ ?_
   refine X3 _ _ _ ?_
   refine E2 _ _ ?_
   refine A1 _ _ ?_
   exact jn ⟨_,sj h6⟩ []
  ·obtain ⟨hx11,hd2,hlt12⟩:=D9 hd8
   replace h6:=(O4.eq_2 _ _ _ _ _ _ _).symm.trans h6
   refine j5 hn ?_
   refine j4.seqQ fun _ A5 _ _=>?_
   refine q8 hn ?_
   refine j3 hlt12 ?_
   refine x9 hn ?_
   refine A5 _ _ ?_
   refine j4.seqQ fun _ A6 _ R6=>?_
   refine j4.blkQ fun _ A7 _ _ R7=>?_
   refine j5 hn ?_
   obtain ⟨x13,hx14,h6⟩:=l5 h6
   refine aX3 hx14 ?_
   refine ldM (K8 hx14).2 ?_
   refine j5 hn ?_
   obtain ⟨x15,hx16,h6⟩:=l5 h6
   refine U9 hx16 ?_
   refine C9 (fun hl17=>?_)
   obtain ⟨o19,h20,h6⟩:=l5 h6
   refine jk (ι:={ s // o19=U2.next s }) hn (fun s=>[]) (fun s=>[]) [(2,_),(3,_),(14,_),(15,_),(16,_)] [(3,_),(14,_)] (fun _ A8 _ R8=>?_) ?_
   ·refine j4.blkQ fun _ _ E9 _ R9=>?_
    refine lq (ι:={ q:((List Me)×Nat) // q.1=x15.methods.drop q.2∧O6 N a2 x13 q.1 q.2=some o19 }) hn (fun q=>[(27,.int (q.1.2:Int))]) (fun q=>[]) (fun q=>q.1.1.length) [(2,_),(3,_),(9,_),(14,_),(15,_),(16,_),(25,_),(26,_)] [(3,_),(14,_)] ⟨(x15.methods,0),rfl,h20⟩ [] ?_
    rintro ⟨⟨rest_,k18⟩,hd22,h20⟩ _ A10 X10 R10
    replace hd22:rest_=x15.methods.drop k18:=hd22
    rcases rest_ with _|⟨x24,rest21⟩
    ·have hlt26:=I7 hd22
     replace h20:=(O6.eq_1 _ _ _ _).symm.trans h20
     refine j5 hn ?_
     refine j4.seqQ fun _ _ X11 _=>?_
     refine q8 hn ?_
     refine d9 hlt26 ?_
     refine I4 hn ?_
     refine X11 _ _ _ ?_
     refine X10 _ _ _ ?_
     refine E9 _ _ ?_
     refine A8 _ _ ?_
     exact jn ⟨_,sj h20⟩ []
    ·obtain ⟨hx25,hd2,hlt26⟩:=D9 hd22
     replace h20:=(O6.eq_2 _ _ _ _ _ _).symm.trans h20
     refine j5 hn ?_
     refine j4.seqQ fun _ A12 _ _=>?_
     refine q8 hn ?_
     refine j3 hlt26 ?_
     refine x9 hn ?_
     refine A12 _ _ ?_
     refine j4.seqQ fun _ A13 _ R13=>?_
     refine j4.blkQ fun _ A14 _ _ R14=>?_
     refine j5 hn ?_
     refine Z7 hx25 ?_
     refine j5 hn ?_
     refine q8 hn ?_
     refine l8 h20 (fun hb27 h20=>?_) (fun hb27 h20=>?_)
     ·refine kp [(9,_),(10,_)] [] ?_
      refine j5 hn ?_
      refine got hn ?_
      refine R14 _ _ ?_
      refine R13 _ _ ?_
      refine R10 _ _ ?_
      refine R9 _ _ ?_
      refine R8 _ _ ?_
      refine R7 _ _ ?_
      refine R6 _ _ ?_
      refine R3 _ _ ?_
      refine R2 _ _ ?_
      refine R1 _ _ ?_
      refine R0 _ _ ?_
      obtain rfl:=Option.some.inj h20
      obtain rfl:=Option.some.inj h6
      obtain rfl:=Option.some.inj h
      exact ⟨[],_,fm⟩
     refine x9 hn ?_
     refine A14 _ _ ?_
     refine A13 _ _ ?_
     refine kp [(2,_),(3,_),(9,_),(14,_),(15,_),(16,_),(25,_),(26,_),(27,_)] [(3,_),(14,_)] ?_
     refine w9 hn ?_
     refine Or.inl (And.intro (X9 hx25 hl17) ?_)
     refine A10 _ _ ?_
     exact jn ⟨(rest21,k18+1),hd2,h20⟩ [] (by show rest21.length < rest21.length+1; omega)
   rintro ⟨⟨⟩,rfl⟩
   refine A7 _ _ ?_
   refine A6 _ _ ?_
   refine w9 hn ?_
   refine Or.inl (And.intro (X9 hx11 hl3) ?_)
   refine A3 _ _ ?_
   exact jn ⟨(rest7,k4+1),hd2,h6⟩ [] (by show rest7.length < rest7.length+1; omega)
 rintro ⟨⟨⟩,rfl⟩
 refine A0 _ _ ?_
 refine j5 hn ?_
 refine got hn ?_
 obtain rfl:=Option.some.inj h
 exact ⟨[],_,fm⟩

/- class.Name -/
set_option maxRecDepth 100000 in
set_option maxHeartbeats 8000000 in
theorem aU0 (N:Nat) (a0:ByteArray) (r:Bool) (h:aC5 N a0=some r):Spec Try.prog 26 [] [.str a0] (.bool r) [] []:=by
 refine Spec.of G5 Try.func26 rfl Try.ntmps26 (by kernel_rfl) rfl rfl rfl fun Γ hn=>?_
 unfold aC5 at h
 refine j5 hn ?_
 refine j4.seqQ fun _ A0 _ R0=>?_
 refine j4.seqQ fun _ A1 _ _=>?_
 obtain ⟨o3,h2,h⟩:=l5 h
 refine jk (ι:={ s // o3=s }) hn (fun s=>[(11,.bool s.1)]) (fun s=>[]) [(0,_)] [] (fun _ A2 _ _=>?_) ?_
 ·refine w9 hn ?_
  intro _
  refine l8 h2 (fun hb5 h2=>?_) (fun hb5 h2=>?_)
  ·refine j3 hb5 ?_
   refine j3 hb5 ?_
   refine j3 hb5 ?_
   refine A2 _ _ ?_
   exact jn ⟨_,sj h2⟩ []
  refine d9 hb5 ?_
  intro _
  refine d9 hb5 ?_
  refine d9 hb5 ?_
  refine A2 _ _ ?_
  exact jn ⟨_,sj h2⟩ []
 rintro ⟨v1,hv_⟩
 replace hv_:=hv_.symm
 subst hv_
 refine A1 _ _ ?_
 refine q8 hn ?_
 refine l8 h (fun hb7 h=>?_) (fun hb7 h=>?_)
 ·refine j5 hn ?_
  refine got hn ?_
  refine R0 _ _ ?_
  obtain rfl:=Option.some.inj h
  exact ⟨[],_,fm⟩
 refine x9 hn ?_
 refine A0 _ _ ?_
 refine j4.seqQ fun _ A3 _ R3=>?_
 refine j5 hn ?_
 intro _
 refine j4.rng 13 rfl (fun hrn=>?_)
 obtain ⟨o10,h11,h⟩:=l5 h
 refine jk (ι:={ s // o10=U2.next s }) hn (fun s=>[]) (fun s=>[]) [] [] (fun _ A4 _ R4=>?_) ?_
 ·refine j4.blkQ fun _ _ E5 _ R5=>?_
  refine lq (ι:={ q:(Nat×Nat) // q.1=((a0.size:Int) - (q.2:Int)).toNat∧Q4 N a0 q.1 q.2=some o10 }) hn (fun q=>[(14,.int (q.1.2:Int))]) (fun q=>[]) (fun q=>q.1.1) [(0,_),(13,_)] [] ⟨(((a0.size:Int) - ((0:Nat):Int)).toNat,0),rfl,h11⟩ [] ?_
  rintro ⟨⟨n_,k9⟩,hd13,h11⟩ _ A6 X6 R6
  replace hd13:n_=((a0.size:Int) - (k9:Int)).toNat:=hd13
  rcases n_ with _|n14
  ·have hlt17:=bY3 hd13
   replace h11:=(Q4.eq_1 _ _ _).symm.trans h11
   refine j5 hn ?_
   refine j4.seqQ fun _ _ X7 _=>?_
   refine q8 hn ?_
   refine d9 hlt17 ?_
   refine I4 hn ?_
   refine X7 _ _ _ ?_
   refine X6 _ _ _ ?_
   refine E5 _ _ ?_
   refine A4 _ _ ?_
   exact jn ⟨_,sj h11⟩ []
  ·obtain ⟨hd2,hlt17⟩:=bQ7 hd13
   replace h11:=(Q4.eq_2 _ _ _ _).symm.trans h11
   refine j5 hn ?_
   refine j4.seqQ fun _ A8 _ _=>?_
   refine q8 hn ?_
   refine j3 hlt17 ?_
   refine x9 hn ?_
   refine A8 _ _ ?_
   refine j4.seqQ fun _ A9 _ R9=>?_
   refine j4.blkQ fun _ A10 _ _ R10=>?_
   refine j5 hn ?_
   refine j4.seqQ fun _ A11 _ _=>?_
   obtain ⟨o20,h19,h11⟩:=l5 h11
   refine jk (ι:={ s // o20=s }) hn (fun s=>[(26,.bool s.1)]) (fun s=>[]) [(0,_),(13,_),(14,_)] [] (fun _ A12 _ _=>?_) ?_
   ·refine w9 hn ?_
    obtain ⟨u21,hx22,h19⟩:=l5 h19
    refine byM hx22 ?_
    refine And.intro rfl ?_
    refine l8 h19 (fun hb23 h19=>?_) (fun hb23 h19=>?_)
    ·refine j3 hb23 ?_
     refine j3 hb23 ?_
     refine j3 hb23 ?_
     refine j3 hb23 ?_
     refine A12 _ _ ?_
     exact jn ⟨_,sj h19⟩ []
    refine d9 hb23 ?_
    refine d9 hb23 ?_
    obtain ⟨u24,hx25,h19⟩:=l5 h19
    refine byM hx25 ?_
    refine d9 hb23 ?_
    refine And.intro rfl ?_
    refine d9 hb23 ?_
    refine A12 _ _ ?_
    exact jn ⟨_,sj h19⟩ []
   rintro ⟨v18,hv_⟩
   replace hv_:=hv_.symm
   subst hv_
   refine A11 _ _ ?_
   refine q8 hn ?_
   refine l8 h11 (fun hb26 h11=>?_) (fun hb26 h11=>?_)
   ·refine j5 hn ?_
    refine got hn ?_
    refine R10 _ _ ?_
    refine R9 _ _ ?_
    refine R6 _ _ ?_
    refine R5 _ _ ?_
    refine R4 _ _ ?_
    refine R3 _ _ ?_
    obtain rfl:=Option.some.inj h11
    obtain rfl:=Option.some.inj h
    exact ⟨[],_,fm⟩
   refine x9 hn ?_
   refine A10 _ _ ?_
   refine A9 _ _ ?_
   refine w9 hn ?_
   refine Or.inl (And.intro (b60 hlt17 hrn) ?_)
   refine A6 _ _ ?_
   exact jn ⟨(n14,k9+1),hd2,h11⟩ [] (by show n14 < n14+1; omega)
 rintro ⟨⟨⟩,rfl⟩
 refine A3 _ _ ?_
 refine j5 hn ?_
 refine got hn ?_
 obtain rfl:=Option.some.inj h
 exact ⟨[],_,fm⟩

/- slices.Clone[[]api.Value,api.Value] -/
set_option maxRecDepth 100000 in
theorem aY0 (N:Nat) (l:List V) (r:List V) (h:aC4 N l=some r):Spec Try.prog 92 [] [.sl 2 (List.map eV l)] (.own 0) [(0,.row 2 (List.map eV r) 39)] [0]:=by
  obtain ⟨hf,h⟩:=K3 h
  obtain rfl:=Option.some.inj h
  refine Spec.of G5 Try.func92 rfl Try.ntmps92 (by kernel_rfl) rfl rfl rfl fun Γ hn=>?_
  refine j5 hn ?_
  refine j4.seq (j4.seq (j4.ops (goo hn 1 ?_)))
  refine OOk.gh (Gh.nil 3 rfl) ?_
  rintro ⟨b,hb⟩
  refine goo hn 1 (OOk.done ?_)
  (repeat (first|refine j5 hn ?_|refine w9 hn ?_|refine gob hn ?_|refine q8 hn ?_|refine I4 hn ?_|refine x9 hn ?_|refine got hn ?_))
  refine bQ8 (fun hb1=>?_) (fun hb1=>?_)
  · have e:l=[]:=by simpa using hb hb1
    subst e
    refine j5 hn ?_
    refine j4.nilrow 2 5 2 39 rfl rfl rfl ?_
    (repeat (first|refine j5 hn ?_|refine w9 hn ?_|refine gob hn ?_|refine q8 hn ?_|refine I4 hn ?_|refine x9 hn ?_|refine got hn ?_))
    exact ⟨[(0,5)],_,rfl,rfl,⟨rfl,trivial⟩,rfl,rfl,rfl,rfl,rfl⟩
  · (repeat (first|refine j5 hn ?_|refine w9 hn ?_|refine gob hn ?_|refine q8 hn ?_|refine I4 hn ?_|refine x9 hn ?_|refine got hn ?_))
    refine Exists.intro [] (And.intro trivial ?_)
    refine And.intro (by have:=Nat.le_of_ble_eq_true hf; simpa using this) ?_
    refine Exists.intro (List.map eV l) (And.intro (D5 _) ?_)
    (repeat (first|refine j5 hn ?_|refine w9 hn ?_|refine gob hn ?_|refine q8 hn ?_|refine I4 hn ?_|refine x9 hn ?_|refine got hn ?_))
    exact ⟨[(0,7)],_,rfl,rfl,⟨rfl,trivial⟩,rfl,rfl,rfl,rfl,rfl⟩

/- value.Own -/
set_option maxRecDepth 100000 in
set_option maxHeartbeats 8000000 in
theorem aL1 (N:Nat) (a0:(List Ob)) (r:(List Ob)) (h:aB4 N a0=some r):Spec Try.prog 65 [] [.sl 2 (List.map eOb a0)] (.own 0) [(0,.deep 2 97 [(1,(2,39))] (List.map eOb r) [] 1),(1,.gone)] [0,1]:=by
 refine Spec.of G5 Try.func65 rfl Try.ntmps65 (by kernel_rfl) rfl rfl rfl fun Γ hn=>?_
 unfold aB4 at h
 refine j5 hn ?_
 refine j5 hn ?_
 refine j4.seqQ fun _ A0 _ _=>?_
 refine j5 hn ?_
 refine C9 (fun hl1=>?_)
 refine j4.nilrow 3 203 2 97 rfl rfl rfl ?_
 refine j4.gh (Gh.toDeep 203 501 [(1,(2,39))] rfl rfl rfl rfl) (fun _=>?_)
 obtain ⟨o6,h7,h⟩:=l5 h
 refine jk (ι:={ s // o6=s }) hn (fun s=>[]) (fun s=>[(203,.deep 2 97 [(1,(2,39))] (List.map eOb s.1) [] 501)]) [(3,_)] [(501,_)] (fun _ A1 _ _=>?_) ?_
 ·refine j4.blkQ fun _ _ E2 _ _=>?_
  refine lq (ι:={ q:((List Ob)×Nat×(List Ob)) // q.1=a0.drop q.2.1∧O9 N q.1 q.2.1 q.2.2=some o6 }) hn (fun q=>[(8,.int (q.1.2.1:Int))]) (fun q=>[(203,.deep 2 97 [(1,(2,39))] (List.map eOb q.1.2.2) [] 501)]) (fun q=>q.1.1.length) [(3,_),(6,_),(7,_)] [(501,_)] ⟨(a0,0,([]:List Ob)),rfl,h7⟩ [] ?_
  rintro ⟨⟨rest_,k2,v3⟩,hd9,h7⟩ _ A3 X3 _
  replace hd9:rest_=a0.drop k2:=hd9
  rcases rest_ with _|⟨x11,rest8⟩
  ·have hlt13:=I7 hd9
   replace h7:=(O9.eq_1 _ _ _).symm.trans h7
   refine j5 hn ?_
   refine j4.seqQ fun _ _ X4 _=>?_
   refine q8 hn ?_
   refine d9 hlt13 ?_
   refine I4 hn ?_
   refine X4 _ _ _ ?_
   refine X3 _ _ _ ?_
   refine E2 _ _ ?_
   refine A1 _ _ ?_
   exact jn ⟨_,sj h7⟩ []
  ·obtain ⟨hx12,hd2,hlt13⟩:=D9 hd9
   replace h7:=(O9.eq_2 _ _ _ _ _).symm.trans h7
   refine j5 hn ?_
   refine j4.seqQ fun _ A5 _ _=>?_
   refine q8 hn ?_
   refine j3 hlt13 ?_
   refine x9 hn ?_
   refine A5 _ _ ?_
   refine j4.seqQ fun _ A6 _ _=>?_
   refine j4.blkQ fun _ A7 _ _ _=>?_
   refine j5 hn ?_
   refine Z7 hx12 ?_
   refine j5 hn ?_
   obtain ⟨r14,hr15,h7⟩:=l5 h7
   show p9 Try.prog _ _ _ _
   refine cA ((aY0 N x11.slots r14 hr15).sw 0 14) ?_
   refine w9 hn ?_
   refine Or.inl ?_
   refine Exists.intro [(1,(2,39))] (Exists.intro (eOb (⟨x11.cls,r14⟩:Ob)) (Exists.intro [(14,.row 2 (List.map eV r14) 39)] (And.intro rfl (And.intro rfl (And.intro rfl (And.intro (by decide) (And.intro (by decide) (And.intro rfl (And.intro rfl ?_)))))))))
   obtain ⟨hg16,h7⟩:=K3 h7
   refine b40 (l2:=[(⟨x11.cls,r14⟩:Ob)]) hg16 rfl rfl rfl rfl rfl (by decide) (by decide) ?_
   refine A7 _ _ ?_
   refine A6 _ _ ?_
   refine w9 hn ?_
   refine Or.inl (And.intro (X9 hx12 hl1) ?_)
   refine A3 _ _ ?_
   exact jn ⟨(rest8,k2+1,(v3++[(⟨x11.cls,r14⟩:Ob)])),hd2,h7⟩ [(203,19),(501,719)] (by show rest8.length < rest8.length+1; omega)
 rintro ⟨v5,hv_⟩
 replace hv_:=hv_.symm
 subst hv_
 refine A0 _ _ ?_
 refine j5 hn ?_
 refine got hn ?_
 obtain rfl:=Option.some.inj h
 exact ⟨[(0,203),(1,501)],_,fm⟩

/- slices.Clone[[]api.Instr,api.Instr] -/
set_option maxRecDepth 100000 in
theorem aU9 (N:Nat) (l:List Ins) (r:List Ins) (h:Z4 N l=some r):Spec Try.prog 71 [] [.sl 5 (List.map aI7 l)] (.own 0) [(0,.row 5 (List.map aI7 r) 100)] [0]:=by
  obtain ⟨hf,h⟩:=K3 h
  obtain rfl:=Option.some.inj h
  refine Spec.of G5 Try.func71 rfl Try.ntmps71 (by kernel_rfl) rfl rfl rfl fun Γ hn=>?_
  refine j5 hn ?_
  refine j4.seq (j4.seq (j4.ops (goo hn 1 ?_)))
  refine OOk.gh (Gh.nil 3 rfl) ?_
  rintro ⟨b,hb⟩
  refine goo hn 1 (OOk.done ?_)
  (repeat (first|refine j5 hn ?_|refine w9 hn ?_|refine gob hn ?_|refine q8 hn ?_|refine I4 hn ?_|refine x9 hn ?_|refine got hn ?_))
  refine bQ8 (fun hb1=>?_) (fun hb1=>?_)
  · have e:l=[]:=by simpa using hb hb1
    subst e
    refine j5 hn ?_
    refine j4.nilrow 2 5 5 100 rfl rfl rfl ?_
    (repeat (first|refine j5 hn ?_|refine w9 hn ?_|refine gob hn ?_|refine q8 hn ?_|refine I4 hn ?_|refine x9 hn ?_|refine got hn ?_))
    exact ⟨[(0,5)],_,rfl,rfl,⟨rfl,trivial⟩,rfl,rfl,rfl,rfl,rfl⟩
  · (repeat (first|refine j5 hn ?_|refine w9 hn ?_|refine gob hn ?_|refine q8 hn ?_|refine I4 hn ?_|refine x9 hn ?_|refine got hn ?_))
    refine Exists.intro [] (And.intro trivial ?_)
    refine And.intro (by have:=Nat.le_of_ble_eq_true hf; simpa using this) ?_
    refine Exists.intro (List.map aI7 l) (And.intro (D5 _) ?_)
    (repeat (first|refine j5 hn ?_|refine w9 hn ?_|refine gob hn ?_|refine q8 hn ?_|refine I4 hn ?_|refine x9 hn ?_|refine got hn ?_))
    exact ⟨[(0,7)],_,rfl,rfl,⟨rfl,trivial⟩,rfl,rfl,rfl,rfl,rfl⟩

/- class.Method -/
set_option maxRecDepth 100000 in
set_option maxHeartbeats 8000000 in
theorem V6 (N:Nat) (a0:Me) (r:Me) (h:M8 N a0=some r):Spec Try.prog 36 [] [.agg (D6 a0)] (.agg (D6 r)) [] []:=by
 refine Spec.of G5 Try.func36 rfl Try.ntmps36 (by kernel_rfl) rfl rfl rfl fun Γ hn=>?_
 unfold M8 at h
 refine j5 hn ?_
 refine j5 hn ?_
 obtain ⟨r1,hr2,h⟩:=l5 h
 show p9 Try.prog _ _ _ _
 refine cA ((aU9 N a0.code r1 hr2).sw 0 5) ?_
 refine j5 hn ?_
 refine j4.fzAll 5 rfl ?_
 refine got hn ?_
 obtain rfl:=Option.some.inj h
 exact ⟨[],_,fm⟩

/- class.Own -/
set_option maxRecDepth 100000 in
set_option maxHeartbeats 8000000 in
theorem bL1 (N:Nat) (a0:Wd) (r:Wd) (h:aH6 N a0=some r):Spec Try.prog 25 [] [.agg (eWd a0)] (.agg [.sl 4 (List.map U7 r.classes),.own 0,.int r.epoch]) [(0,.deep 2 97 [(1,(2,39))] (List.map eOb r.heap) [] 1),(1,.gone)] [0,1]:=by
 refine Spec.of G5 Try.func25 rfl Try.ntmps25 (by kernel_rfl) rfl rfl rfl fun Γ hn=>?_
 unfold aH6 at h
 refine j5 hn ?_
 refine j4.seqQ fun _ A0 _ _=>?_
 refine god hn (by kernel_rfl) ?_
 obtain ⟨r1,hr2,h⟩:=l5 h
 show p9 Try.prog _ _ _ _
 refine cA (((aL1 N a0.heap r1 hr2).sw 0 11).sw 1 711) ?_
 refine A0 _ _ ?_
 refine j4.seqQ fun _ A1 _ _=>?_
 refine j5 hn ?_
 refine C9 (fun hl3=>?_)
 refine j4.nilrowB 3 0 501 4 67 rfl rfl rfl rfl rfl rfl ?_
 obtain ⟨o8,h9,h⟩:=l5 h
 refine jk (ι:={ s // o8=s }) hn (fun s=>[]) (fun s=>[(501,.row 4 (List.map U7 s.1) 67)]) [(2,_),(3,_)] [(2,_),(3,_),(11,_),(711,_)] (fun _ A2 _ _=>?_) ?_
 ·refine j4.blkQ fun _ _ E3 _ _=>?_
  refine lq (ι:={ q:((List Cl)×Nat×(List Cl)) // q.1=a0.classes.drop q.2.1∧P8 N q.1 q.2.1 q.2.2=some o8 }) hn (fun q=>[(18,.int (q.1.2.1:Int))]) (fun q=>[(501,.row 4 (List.map U7 q.1.2.2) 67)]) (fun q=>q.1.1.length) [(2,_),(3,_),(16,_),(17,_)] [(2,_),(3,_),(11,_),(711,_)] ⟨(a0.classes,0,([]:List Cl)),rfl,h9⟩ [] ?_
  rintro ⟨⟨rest_,k4,v5⟩,hd11,h9⟩ _ A4 X4 _
  replace hd11:rest_=a0.classes.drop k4:=hd11
  rcases rest_ with _|⟨x13,rest10⟩
  ·have hlt15:=I7 hd11
   replace h9:=(P8.eq_1 _ _ _).symm.trans h9
   refine j5 hn ?_
   refine j4.seqQ fun _ _ X5 _=>?_
   refine q8 hn ?_
   refine d9 hlt15 ?_
   refine I4 hn ?_
   refine X5 _ _ _ ?_
   refine X4 _ _ _ ?_
   refine E3 _ _ ?_
   refine A2 _ _ ?_
   exact jn ⟨_,sj h9⟩ []
  ·obtain ⟨hx14,hd2,hlt15⟩:=D9 hd11
   replace h9:=(P8.eq_2 _ _ _ _ _).symm.trans h9
   refine j5 hn ?_
   refine j4.seqQ fun _ A6 _ _=>?_
   refine q8 hn ?_
   refine j3 hlt15 ?_
   refine x9 hn ?_
   refine A6 _ _ ?_
   refine j4.seqQ fun _ A7 _ _=>?_
   refine j4.blkQ fun _ A8 _ _ _=>?_
   refine j5 hn ?_
   refine Z7 hx14 ?_
   refine j5 hn ?_
   refine j4.seqQ fun _ A9 _ _=>?_
   refine j5 hn ?_
   refine C9 (fun hl16=>?_)
   refine j4.nilrow 6 206 5 64 rfl rfl rfl ?_
   obtain ⟨o21,h22,h9⟩:=l5 h9
   refine jk (ι:={ s // o21=s }) hn (fun s=>[]) (fun s=>[(206,.row 5 (List.map D6 s.1) 64)]) [(2,_),(3,_),(5,_),(6,_),(16,_),(17,_),(18,_)] [(2,_),(3,_),(5,_),(11,_),(501,_),(711,_)] (fun _ A10 _ _=>?_) ?_
   ·refine j4.blkQ fun _ _ E11 _ _=>?_
    refine lq (ι:={ q:((List Me)×Nat×(List Me)) // q.1=x13.methods.drop q.2.1∧P5 N q.1 q.2.1 q.2.2=some o21 }) hn (fun q=>[(25,.int (q.1.2.1:Int))]) (fun q=>[(206,.row 5 (List.map D6 q.1.2.2) 64)]) (fun q=>q.1.1.length) [(2,_),(3,_),(5,_),(6,_),(16,_),(17,_),(18,_),(23,_),(24,_)] [(2,_),(3,_),(5,_),(11,_),(501,_),(711,_)] ⟨(x13.methods,0,([]:List Me)),rfl,h22⟩ [] ?_
    rintro ⟨⟨rest_,k17,v18⟩,hd24,h22⟩ _ A12 X12 _
    replace hd24:rest_=x13.methods.drop k17:=hd24
    rcases rest_ with _|⟨x26,rest23⟩
    ·have hlt28:=I7 hd24
     replace h22:=(P5.eq_1 _ _ _).symm.trans h22
     refine j5 hn ?_
     refine j4.seqQ fun _ _ X13 _=>?_
     refine q8 hn ?_
     refine d9 hlt28 ?_
     refine I4 hn ?_
     refine X13 _ _ _ ?_
     refine X12 _ _ _ ?_
     refine E11 _ _ ?_
     refine A10 _ _ ?_
     exact jn ⟨_,sj h22⟩ []
    ·obtain ⟨hx27,hd2,hlt28⟩:=D9 hd24
     replace h22:=(P5.eq_2 _ _ _ _ _).symm.trans h22
     refine j5 hn ?_
     refine j4.seqQ fun _ A14 _ _=>?_
     refine q8 hn ?_
     refine j3 hlt28 ?_
     refine x9 hn ?_
     refine A14 _ _ ?_
     refine j4.seqQ fun _ A15 _ _=>?_
     refine j4.blkQ fun _ A16 _ _ _=>?_
     refine j5 hn ?_
     refine Z7 hx27 ?_
     refine w9 hn ?_
     obtain ⟨r29,hr30,h22⟩:=l5 h22
     show p9 Try.prog _ _ _ _
     refine cA (V6 N x26 r29 hr30) ?_
     refine Exists.intro (List.map D6 [r29]) (And.intro (by repeat (first|exact trivial|exact rfl|(refine And.intro ?_ ?_))) ?_)
     obtain ⟨hg31,h22⟩:=K3 h22
     refine aD5 (l2:=[r29]) hg31 (D5 _) ?_
     refine A16 _ _ ?_
     refine A15 _ _ ?_
     refine kp [(2,_),(3,_),(5,_),(6,_),(16,_),(17,_),(18,_),(23,_),(24,_),(25,_)] [(2,_),(3,_),(5,_),(11,_),(33,_),(501,_),(711,_)] ?_
     refine w9 hn ?_
     refine Or.inl (And.intro (X9 hx27 hl16) ?_)
     refine A12 _ _ ?_
     exact jn ⟨(rest23,k17+1,(v18++[r29])),hd2,h22⟩ [(206,33)] (by show rest23.length < rest23.length+1; omega)
   rintro ⟨v20,hv_⟩
   replace hv_:=hv_.symm
   subst hv_
   refine A9 _ _ ?_
   refine j5 hn ?_
   refine w9 hn ?_
   refine Or.inr ?_
   refine Exists.intro (List.map U7 [(⟨x13.name,x13.super,x13.slots,v20⟩:Cl)]) (And.intro (by repeat (first|exact trivial|exact rfl|(refine And.intro ?_ ?_))) ?_)
   obtain ⟨hg32,h9⟩:=K3 h9
   refine aD5 (l2:=[(⟨x13.name,x13.super,x13.slots,v20⟩:Cl)]) hg32 (D5 _) ?_
   refine A8 _ _ ?_
   refine A7 _ _ ?_
   refine w9 hn ?_
   refine Or.inl (And.intro (X9 hx14 hl3) ?_)
   refine A4 _ _ ?_
   exact jn ⟨(rest10,k4+1,(v5++[(⟨x13.name,x13.super,x13.slots,v20⟩:Cl)])),hd2,h9⟩ [(501,41)] (by show rest10.length < rest10.length+1; omega)
 rintro ⟨v7,hv_⟩
 replace hv_:=hv_.symm
 subst hv_
 refine A1 _ _ ?_
 refine j5 hn ?_
 refine j4.fzAll 501 rfl ?_
 refine got hn ?_
 obtain rfl:=Option.some.inj h
 exact ⟨[(0,11),(1,711)],_,fm⟩

/- class.Slots -/
set_option maxRecDepth 100000 in
set_option maxHeartbeats 8000000 in
theorem aP5 (N:Nat) (a0:Wd) (a1:Int) (r:Int) (h:aA2 N a0 a1=some r):Spec Try.prog 28 [] [.agg (eWd a0),.int a1] (.int r) [] []:=by
 refine Spec.of G5 Try.func28 rfl Try.ntmps28 (by kernel_rfl) rfl rfl rfl fun Γ hn=>?_
 unfold aA2 at h
 refine j5 hn ?_
 refine j5 hn ?_
 refine j4.seqQ fun _ A0 _ _=>?_
 refine j5 hn ?_
 obtain ⟨o9,h10,h⟩:=l5 h
 refine jk (ι:={ s // o9=s }) hn (fun s=>[(5,.int s.1)]) (fun s=>[]) [] [] (fun _ A1 _ _=>?_) ?_
 ·refine j4.blkQ fun _ _ E2 _ _=>?_
  refine lq (ι:={ q:(Nat×Int×Int×Int) // O5 N a0 q.1 q.2.1 q.2.2.1 q.2.2.2=some o9 }) hn (fun q=>[(1,.int q.1.2.1),(5,.int q.1.2.2.1),(6,.int q.1.2.2.2)]) (fun q=>[]) (fun q=>q.1.1) [(2,_)] [(2,_)] ⟨(N,a1,(0:Int),(0:Int)),h10⟩ [] ?_
  rintro ⟨⟨n_,v2,v3,v4⟩,h10⟩ _ A3 X3 _
  rcases n_ with _|n13
  ·rw [O5.eq_1] at h10
   cases h10
  ·replace h10:=(O5.eq_2 _ _ _ _ _ _).symm.trans h10
   refine j4.seqQ fun _ A4 X4 _=>?_
   refine j4.seqQ fun _ A5 _ _=>?_
   obtain ⟨o16,h15,h10⟩:=l5 h10
   refine jk (ι:={ s // o16=s }) hn (fun s=>[(22,.bool s.1)]) (fun s=>[]) [(1,_),(2,_),(5,_),(6,_)] [(2,_)] (fun _ A6 _ _=>?_) ?_
   ·refine w9 hn ?_
    refine l8 h15 (fun hb17 h15=>?_) (fun hb17 h15=>?_)
    ·refine j3 hb17 ?_
     refine j3 hb17 ?_
     refine j3 hb17 ?_
     refine C9 (fun _=>?_)
     refine j3 hb17 ?_
     refine j3 hb17 ?_
     refine l8 h15 (fun hb19 h15=>?_) (fun hb19 h15=>?_)
     ·refine j3 hb19 ?_
      refine j3 hb19 ?_
      refine j3 hb19 ?_
      refine C9 (fun _=>?_)
      refine j3 hb19 ?_
      refine j3 hb19 ?_
      refine A6 _ _ ?_
      exact jn ⟨_,sj h15⟩ []
     refine d9 hb19 ?_
     refine d9 hb19 ?_
     refine d9 hb19 ?_
     refine d9 hb19 ?_
     refine d9 hb19 ?_
     refine A6 _ _ ?_
     exact jn ⟨_,sj h15⟩ []
    refine d9 hb17 ?_
    refine d9 hb17 ?_
    refine d9 hb17 ?_
    refine d9 hb17 ?_
    refine d9 hb17 ?_
    refine A6 _ _ ?_
    exact jn ⟨_,sj h15⟩ []
   rintro ⟨v14,hv_⟩
   replace hv_:=hv_.symm
   subst hv_
   refine A5 _ _ ?_
   refine q8 hn ?_
   refine l8 h10 (fun hb21 h10=>?_) (fun hb21 h10=>?_)
   ·refine x9 hn ?_
    refine A4 _ _ ?_
    refine j4.seqQ fun _ A7 _ _=>?_
    refine j4.blkQ fun _ A8 _ _ _=>?_
    refine j5 hn ?_
    obtain ⟨x22,hx23,h10⟩:=l5 h10
    refine U9 hx23 ?_
    refine Or.inr ?_
    refine w9 hn ?_
    obtain ⟨x24,hx25,h10⟩:=l5 h10
    refine U9 hx25 ?_
    refine A8 _ _ ?_
    refine A7 _ _ ?_
    refine kp [(1,_),(2,_),(5,_),(6,_)] [(2,_)] ?_
    refine w9 hn ?_
    refine Or.inr ?_
    refine A3 _ _ ?_
    exact jn ⟨(n13,x24.super,(wr (v3+x22.slots)),(wr (v4+(1:Int)))),h10⟩ [] (by show n13 < n13+1; omega)
   refine I4 hn ?_
   refine X4 _ _ _ ?_
   refine X3 _ _ _ ?_
   refine E2 _ _ ?_
   refine A1 _ _ ?_
   exact jn ⟨_,sj h10⟩ []
 rintro ⟨v8,hv_⟩
 replace hv_:=hv_.symm
 subst hv_
 refine A0 _ _ ?_
 refine j5 hn ?_
 refine got hn ?_
 obtain rfl:=Option.some.inj h
 exact ⟨[],_,fm⟩

/- qcref1.SameCode -/
set_option maxRecDepth 100000 in
set_option maxHeartbeats 8000000 in
theorem aI1 (N:Nat) (a0:(List Ins)) (a1:(List Ins)) (r:Bool) (h:Q0 N a0 a1=some r):Spec Try.prog 37 [] [.sl 5 (List.map aI7 a0),.sl 5 (List.map aI7 a1)] (.bool r) [] []:=by
 refine Spec.of G5 Try.func37 rfl Try.ntmps37 (by kernel_rfl) rfl rfl rfl fun Γ hn=>?_
 unfold Q0 at h
 refine j5 hn ?_
 refine j4.seqQ fun _ A0 _ R0=>?_
 refine j5 hn ?_
 refine C9 (fun _=>?_)
 refine C9 (fun _=>?_)
 refine q8 hn ?_
 refine l8 h (fun hb3 h=>?_) (fun hb3 h=>?_)
 ·refine j5 hn ?_
  refine got hn ?_
  refine R0 _ _ ?_
  obtain rfl:=Option.some.inj h
  exact ⟨[],_,fm⟩
 refine x9 hn ?_
 refine A0 _ _ ?_
 refine j4.seqQ fun _ A1 _ R1=>?_
 refine j5 hn ?_
 refine C9 (fun hl4=>?_)
 obtain ⟨o6,h7,h⟩:=l5 h
 refine jk (ι:={ s // o6=U2.next s }) hn (fun s=>[]) (fun s=>[]) [] [] (fun _ A2 _ R2=>?_) ?_
 ·refine j4.blkQ fun _ _ E3 _ R3=>?_
  refine lq (ι:={ q:((List Ins)×Nat) // q.1=a0.drop q.2∧J6 N a1 q.1 q.2=some o6 }) hn (fun q=>[(13,.int (q.1.2:Int))]) (fun q=>[]) (fun q=>q.1.1.length) [(0,_),(1,_),(12,_)] [] ⟨(a0,0),rfl,h7⟩ [] ?_
  rintro ⟨⟨rest_,k5⟩,hd9,h7⟩ _ A4 X4 R4
  replace hd9:rest_=a0.drop k5:=hd9
  rcases rest_ with _|⟨x11,rest8⟩
  ·have hlt13:=I7 hd9
   replace h7:=(J6.eq_1 _ _ _).symm.trans h7
   refine j5 hn ?_
   refine j4.seqQ fun _ _ X5 _=>?_
   refine q8 hn ?_
   refine d9 hlt13 ?_
   refine I4 hn ?_
   refine X5 _ _ _ ?_
   refine X4 _ _ _ ?_
   refine E3 _ _ ?_
   refine A2 _ _ ?_
   exact jn ⟨_,sj h7⟩ []
  ·obtain ⟨hx12,hd2,hlt13⟩:=D9 hd9
   replace h7:=(J6.eq_2 _ _ _ _ _).symm.trans h7
   refine j5 hn ?_
   refine j4.seqQ fun _ A6 _ _=>?_
   refine q8 hn ?_
   refine j3 hlt13 ?_
   refine x9 hn ?_
   refine A6 _ _ ?_
   refine j4.seqQ fun _ A7 _ R7=>?_
   refine j4.blkQ fun _ A8 _ _ R8=>?_
   refine j5 hn ?_
   refine j4.seqQ fun _ A9 _ _=>?_
   refine god hn (by kernel_rfl) ?_
   refine Z7 hx12 ?_
   obtain ⟨x14,hx15,h7⟩:=l5 h7
   refine U9 hx15 ?_
   refine A9 _ _ ?_
   refine q8 hn ?_
   refine l8 h7 (fun hb16 h7=>?_) (fun hb16 h7=>?_)
   ·refine j5 hn ?_
    refine got hn ?_
    refine R8 _ _ ?_
    refine R7 _ _ ?_
    refine R4 _ _ ?_
    refine R3 _ _ ?_
    refine R2 _ _ ?_
    refine R1 _ _ ?_
    obtain rfl:=Option.some.inj h7
    obtain rfl:=Option.some.inj h
    exact ⟨[],_,fm⟩
   refine x9 hn ?_
   refine A8 _ _ ?_
   refine A7 _ _ ?_
   refine w9 hn ?_
   refine Or.inl (And.intro (X9 hx12 hl4) ?_)
   refine A4 _ _ ?_
   exact jn ⟨(rest8,k5+1),hd2,h7⟩ [] (by show rest8.length < rest8.length+1; omega)
 rintro ⟨⟨⟩,rfl⟩
 refine A1 _ _ ?_
 refine j5 hn ?_
 refine got hn ?_
 obtain rfl:=Option.some.inj h
 exact ⟨[],_,fm⟩

/- qcref1.SameWorld -/
set_option maxRecDepth 100000 in
set_option maxHeartbeats 8000000 in
theorem U6 (N:Nat) (a0:Wd) (a1:Wd) (r:Bool) (h:H9 N a0 a1=some r):Spec Try.prog 17 [] [.agg (eWd a0),.agg (eWd a1)] (.bool r) [] []:=by
 refine Spec.of G5 Try.func17 rfl Try.ntmps17 (by kernel_rfl) rfl rfl rfl fun Γ hn=>?_
 unfold H9 at h
 refine j5 hn ?_
 refine j4.seqQ fun _ A0 _ R0=>?_
 refine j4.seqQ fun _ A1 _ _=>?_
 obtain ⟨o3,h2,h⟩:=l5 h
 refine jk (ι:={ s // o3=s }) hn (fun s=>[(36,.bool s.1)]) (fun s=>[]) [(2,_),(3,_)] [(2,_),(3,_)] (fun _ A2 _ _=>?_) ?_
 ·refine w9 hn ?_
  refine l8 h2 (fun hb4 h2=>?_) (fun hb4 h2=>?_)
  ·refine j3 hb4 ?_
   refine j3 hb4 ?_
   refine j3 hb4 ?_
   refine j3 hb4 ?_
   refine j3 hb4 ?_
   refine j3 hb4 ?_
   refine j3 hb4 ?_
   refine A2 _ _ ?_
   exact jn ⟨_,sj h2⟩ []
  refine d9 hb4 ?_
  refine d9 hb4 ?_
  refine C9 (fun _=>?_)
  refine d9 hb4 ?_
  refine d9 hb4 ?_
  refine d9 hb4 ?_
  refine C9 (fun _=>?_)
  refine d9 hb4 ?_
  refine d9 hb4 ?_
  refine l8 h2 (fun hb7 h2=>?_) (fun hb7 h2=>?_)
  ·refine j3 hb7 ?_
   refine j3 hb7 ?_
   refine j3 hb7 ?_
   refine j3 hb7 ?_
   refine j3 hb7 ?_
   refine j3 hb7 ?_
   refine j3 hb7 ?_
   refine A2 _ _ ?_
   exact jn ⟨_,sj h2⟩ []
  refine d9 hb7 ?_
  refine d9 hb7 ?_
  refine C9 (fun _=>?_)
  refine d9 hb7 ?_
  refine d9 hb7 ?_
  refine d9 hb7 ?_
  refine C9 (fun _=>?_)
  refine d9 hb7 ?_
  refine d9 hb7 ?_
  refine A2 _ _ ?_
  exact jn ⟨_,sj h2⟩ []
 rintro ⟨v1,hv_⟩
 replace hv_:=hv_.symm
 subst hv_
 refine A1 _ _ ?_
 refine q8 hn ?_
 refine l8 h (fun hb10 h=>?_) (fun hb10 h=>?_)
 ·refine j5 hn ?_
  refine got hn ?_
  refine R0 _ _ ?_
  obtain rfl:=Option.some.inj h
  exact ⟨[],_,fm⟩
 refine x9 hn ?_
 refine A0 _ _ ?_
 refine j4.seqQ fun _ A3 _ R3=>?_
 refine j5 hn ?_
 refine C9 (fun hl11=>?_)
 obtain ⟨o13,h14,h⟩:=l5 h
 refine jk (ι:={ s // o13=U2.next s }) hn (fun s=>[]) (fun s=>[]) [(2,_),(3,_)] [(2,_),(3,_)] (fun _ A4 _ R4=>?_) ?_
 ·refine j4.blkQ fun _ _ E5 _ R5=>?_
  refine lq (ι:={ q:((List Cl)×Nat) // q.1=a0.classes.drop q.2∧J3 N a1 q.1 q.2=some o13 }) hn (fun q=>[(40,.int (q.1.2:Int))]) (fun q=>[]) (fun q=>q.1.1.length) [(2,_),(3,_),(38,_),(39,_)] [(2,_),(3,_)] ⟨(a0.classes,0),rfl,h14⟩ [] ?_
  rintro ⟨⟨rest_,k12⟩,hd16,h14⟩ _ A6 X6 R6
  replace hd16:rest_=a0.classes.drop k12:=hd16
  rcases rest_ with _|⟨x18,rest15⟩
  ·have hlt20:=I7 hd16
   replace h14:=(J3.eq_1 _ _ _).symm.trans h14
   refine j5 hn ?_
   refine j4.seqQ fun _ _ X7 _=>?_
   refine q8 hn ?_
   refine d9 hlt20 ?_
   refine I4 hn ?_
   refine X7 _ _ _ ?_
   refine X6 _ _ _ ?_
   refine E5 _ _ ?_
   refine A4 _ _ ?_
   exact jn ⟨_,sj h14⟩ []
  ·obtain ⟨hx19,hd2,hlt20⟩:=D9 hd16
   replace h14:=(J3.eq_2 _ _ _ _ _).symm.trans h14
   refine j5 hn ?_
   refine j4.seqQ fun _ A8 _ _=>?_
   refine q8 hn ?_
   refine j3 hlt20 ?_
   refine x9 hn ?_
   refine A8 _ _ ?_
   refine j4.seqQ fun _ A9 _ R9=>?_
   refine j4.blkQ fun _ A10 _ _ R10=>?_
   refine j5 hn ?_
   refine Z7 hx19 ?_
   refine j5 hn ?_
   obtain ⟨x21,hx22,h14⟩:=l5 h14
   refine U9 hx22 ?_
   refine j4.seqQ fun _ A11 _ R11=>?_
   refine j4.seqQ fun _ A12 _ _=>?_
   obtain ⟨o25,h24,h14⟩:=l5 h14
   refine jk (ι:={ s // o25=s }) hn (fun s=>[(77,.bool s.1)]) (fun s=>[]) [(2,_),(3,_),(6,_),(7,_),(38,_),(39,_),(40,_)] [(2,_),(3,_),(6,_),(7,_)] (fun _ A13 _ _=>?_) ?_
   ·refine kp [(2,_),(3,_),(6,_),(7,_),(38,_),(39,_),(40,_)] [(2,_),(3,_),(6,_),(7,_)] ?_
    refine w9 hn ?_
    refine l8 h24 (fun hb26 h24=>?_) (fun hb26 h24=>?_)
    ·refine j3 hb26 ?_
     refine j3 hb26 ?_
     refine j3 hb26 ?_
     refine j3 hb26 ?_
     refine j3 hb26 ?_
     refine A13 _ _ ?_
     exact jn ⟨_,sj h24⟩ []
    refine d9 hb26 ?_
    refine d9 hb26 ?_
    refine d9 hb26 ?_
    refine d9 hb26 ?_
    refine d9 hb26 ?_
    refine l8 h24 (fun hb27 h24=>?_) (fun hb27 h24=>?_)
    ·refine j3 hb27 ?_
     refine j3 hb27 ?_
     refine j3 hb27 ?_
     refine j3 hb27 ?_
     refine j3 hb27 ?_
     refine A13 _ _ ?_
     exact jn ⟨_,sj h24⟩ []
    refine d9 hb27 ?_
    refine d9 hb27 ?_
    refine d9 hb27 ?_
    refine d9 hb27 ?_
    refine d9 hb27 ?_
    refine l8 h24 (fun hb28 h24=>?_) (fun hb28 h24=>?_)
    ·refine j3 hb28 ?_
     refine j3 hb28 ?_
     refine j3 hb28 ?_
     refine j3 hb28 ?_
     refine j3 hb28 ?_
     refine j3 hb28 ?_
     refine j3 hb28 ?_
     refine A13 _ _ ?_
     exact jn ⟨_,sj h24⟩ []
    refine d9 hb28 ?_
    refine d9 hb28 ?_
    refine C9 (fun _=>?_)
    refine d9 hb28 ?_
    refine d9 hb28 ?_
    refine d9 hb28 ?_
    refine C9 (fun _=>?_)
    refine d9 hb28 ?_
    refine d9 hb28 ?_
    refine A13 _ _ ?_
    exact jn ⟨_,sj h24⟩ []
   rintro ⟨v23,hv_⟩
   replace hv_:=hv_.symm
   subst hv_
   refine A12 _ _ ?_
   refine q8 hn ?_
   refine l8 h14 (fun hb31 h14=>?_) (fun hb31 h14=>?_)
   ·refine j5 hn ?_
    refine got hn ?_
    refine R11 _ _ ?_
    refine R10 _ _ ?_
    refine R9 _ _ ?_
    refine R6 _ _ ?_
    refine R5 _ _ ?_
    refine R4 _ _ ?_
    refine R3 _ _ ?_
    obtain rfl:=Option.some.inj h14
    obtain rfl:=Option.some.inj h
    exact ⟨[],_,fm⟩
   refine x9 hn ?_
   refine A11 _ _ ?_
   refine j5 hn ?_
   refine C9 (fun hl32=>?_)
   obtain ⟨o34,h35,h14⟩:=l5 h14
   refine jk (ι:={ s // o34=U2.next s }) hn (fun s=>[]) (fun s=>[]) [(2,_),(3,_),(38,_),(39,_),(40,_)] [(2,_),(3,_)] (fun _ A14 _ R14=>?_) ?_
   ·refine j4.blkQ fun _ _ E15 _ R15=>?_
    refine lq (ι:={ q:((List Me)×Nat) // q.1=x18.methods.drop q.2∧I9 N x21 q.1 q.2=some o34 }) hn (fun q=>[(81,.int (q.1.2:Int))]) (fun q=>[]) (fun q=>q.1.1.length) [(2,_),(3,_),(7,_),(38,_),(39,_),(40,_),(79,_),(80,_)] [(2,_),(3,_),(7,_)] ⟨(x18.methods,0),rfl,h35⟩ [] ?_
    rintro ⟨⟨rest_,k33⟩,hd37,h35⟩ _ A16 X16 R16
    replace hd37:rest_=x18.methods.drop k33:=hd37
    rcases rest_ with _|⟨x39,rest36⟩
    ·have hlt41:=I7 hd37
     replace h35:=(I9.eq_1 _ _ _).symm.trans h35
     refine j5 hn ?_
     refine j4.seqQ fun _ _ X17 _=>?_
     refine q8 hn ?_
     refine d9 hlt41 ?_
     refine I4 hn ?_
     refine X17 _ _ _ ?_
     refine X16 _ _ _ ?_
     refine E15 _ _ ?_
     refine A14 _ _ ?_
     exact jn ⟨_,sj h35⟩ []
    ·obtain ⟨hx40,hd2,hlt41⟩:=D9 hd37
     replace h35:=(I9.eq_2 _ _ _ _ _).symm.trans h35
     refine j5 hn ?_
     refine j4.seqQ fun _ A18 _ _=>?_
     refine q8 hn ?_
     refine j3 hlt41 ?_
     refine x9 hn ?_
     refine A18 _ _ ?_
     refine j4.seqQ fun _ A19 _ R19=>?_
     refine j4.blkQ fun _ A20 _ _ R20=>?_
     refine j5 hn ?_
     refine Z7 hx40 ?_
     refine j5 hn ?_
     obtain ⟨x42,hx43,h35⟩:=l5 h35
     refine U9 hx43 ?_
     refine j4.seqQ fun _ A21 _ _=>?_
     obtain ⟨o46,h45,h35⟩:=l5 h35
     refine jk (ι:={ s // o46=s }) hn (fun s=>[(124,.bool s.1)]) (fun s=>[]) [(2,_),(3,_),(7,_),(38,_),(39,_),(40,_),(79,_),(80,_),(81,_)] [(2,_),(3,_),(7,_)] (fun _ A22 _ _=>?_) ?_
     ·refine kp [(2,_),(3,_),(7,_),(9,_),(10,_),(38,_),(39,_),(40,_),(79,_),(80,_),(81,_)] [(2,_),(3,_),(7,_),(9,_),(10,_)] ?_
      refine w9 hn ?_
      refine l8 h45 (fun hb47 h45=>?_) (fun hb47 h45=>?_)
      ·refine j3 hb47 ?_
       refine j3 hb47 ?_
       refine j3 hb47 ?_
       refine j3 hb47 ?_
       refine j3 hb47 ?_
       refine A22 _ _ ?_
       exact jn ⟨_,sj h45⟩ []
      refine d9 hb47 ?_
      refine d9 hb47 ?_
      refine d9 hb47 ?_
      refine d9 hb47 ?_
      refine d9 hb47 ?_
      refine l8 h45 (fun hb48 h45=>?_) (fun hb48 h45=>?_)
      ·refine j3 hb48 ?_
       refine j3 hb48 ?_
       refine j3 hb48 ?_
       refine j3 hb48 ?_
       refine j3 hb48 ?_
       refine A22 _ _ ?_
       exact jn ⟨_,sj h45⟩ []
      refine d9 hb48 ?_
      refine d9 hb48 ?_
      refine d9 hb48 ?_
      refine d9 hb48 ?_
      refine d9 hb48 ?_
      refine l8 h45 (fun hb49 h45=>?_) (fun hb49 h45=>?_)
      ·refine j3 hb49 ?_
       refine j3 hb49 ?_
       refine j3 hb49 ?_
       refine j3 hb49 ?_
       refine j3 hb49 ?_
       refine A22 _ _ ?_
       exact jn ⟨_,sj h45⟩ []
      refine d9 hb49 ?_
      refine d9 hb49 ?_
      refine d9 hb49 ?_
      refine d9 hb49 ?_
      refine d9 hb49 ?_
      refine l8 h45 (fun hb50 h45=>?_) (fun hb50 h45=>?_)
      ·refine j3 hb50 ?_
       refine j3 hb50 ?_
       refine j3 hb50 ?_
       refine j3 hb50 ?_
       refine j3 hb50 ?_
       refine j3 hb50 ?_
       refine A22 _ _ ?_
       exact jn ⟨_,sj h45⟩ []
      refine d9 hb50 ?_
      refine d9 hb50 ?_
      refine d9 hb50 ?_
      refine d9 hb50 ?_
      obtain ⟨r51,hr52,h45⟩:=l5 h45
      show p9 Try.prog _ _ _ _
      refine cA (aI1 N x39.code x42.code r51 hr52) ?_
      refine d9 hb50 ?_
      refine d9 hb50 ?_
      refine A22 _ _ ?_
      exact jn ⟨_,sj h45⟩ []
     rintro ⟨v44,hv_⟩
     replace hv_:=hv_.symm
     subst hv_
     refine A21 _ _ ?_
     refine q8 hn ?_
     refine l8 h35 (fun hb53 h35=>?_) (fun hb53 h35=>?_)
     ·refine j5 hn ?_
      refine got hn ?_
      refine R20 _ _ ?_
      refine R19 _ _ ?_
      refine R16 _ _ ?_
      refine R15 _ _ ?_
      refine R14 _ _ ?_
      refine R10 _ _ ?_
      refine R9 _ _ ?_
      refine R6 _ _ ?_
      refine R5 _ _ ?_
      refine R4 _ _ ?_
      refine R3 _ _ ?_
      obtain rfl:=Option.some.inj h35
      obtain rfl:=Option.some.inj h14
      obtain rfl:=Option.some.inj h
      exact ⟨[],_,fm⟩
     refine x9 hn ?_
     refine A20 _ _ ?_
     refine A19 _ _ ?_
     refine w9 hn ?_
     refine Or.inl (And.intro (X9 hx40 hl32) ?_)
     refine A16 _ _ ?_
     exact jn ⟨(rest36,k33+1),hd2,h35⟩ [] (by show rest36.length < rest36.length+1; omega)
   rintro ⟨⟨⟩,rfl⟩
   refine A10 _ _ ?_
   refine A9 _ _ ?_
   refine w9 hn ?_
   refine Or.inl (And.intro (X9 hx19 hl11) ?_)
   refine A6 _ _ ?_
   exact jn ⟨(rest15,k12+1),hd2,h14⟩ [] (by show rest15.length < rest15.length+1; omega)
 rintro ⟨⟨⟩,rfl⟩
 refine A3 _ _ ?_
 refine j4.seqQ fun _ A23 _ R23=>?_
 refine j5 hn ?_
 refine C9 (fun hl54=>?_)
 obtain ⟨o56,h57,h⟩:=l5 h
 refine jk (ι:={ s // o56=U2.next s }) hn (fun s=>[]) (fun s=>[]) [] [] (fun _ A24 _ R24=>?_) ?_
 ·refine j4.blkQ fun _ _ E25 _ R25=>?_
  refine lq (ι:={ q:((List Ob)×Nat) // q.1=a0.heap.drop q.2∧I8 N a1 q.1 q.2=some o56 }) hn (fun q=>[(130,.int (q.1.2:Int))]) (fun q=>[]) (fun q=>q.1.1.length) [(3,_),(128,_),(129,_)] [(3,_)] ⟨(a0.heap,0),rfl,h57⟩ [] ?_
  rintro ⟨⟨rest_,k55⟩,hd59,h57⟩ _ A26 X26 R26
  replace hd59:rest_=a0.heap.drop k55:=hd59
  rcases rest_ with _|⟨x61,rest58⟩
  ·have hlt63:=I7 hd59
   replace h57:=(I8.eq_1 _ _ _).symm.trans h57
   refine j5 hn ?_
   refine j4.seqQ fun _ _ X27 _=>?_
   refine q8 hn ?_
   refine d9 hlt63 ?_
   refine I4 hn ?_
   refine X27 _ _ _ ?_
   refine X26 _ _ _ ?_
   refine E25 _ _ ?_
   refine A24 _ _ ?_
   exact jn ⟨_,sj h57⟩ []
  ·obtain ⟨hx62,hd2,hlt63⟩:=D9 hd59
   replace h57:=(I8.eq_2 _ _ _ _ _).symm.trans h57
   refine j5 hn ?_
   refine j4.seqQ fun _ A28 _ _=>?_
   refine q8 hn ?_
   refine j3 hlt63 ?_
   refine x9 hn ?_
   refine A28 _ _ ?_
   refine j4.seqQ fun _ A29 _ R29=>?_
   refine j4.blkQ fun _ A30 _ _ R30=>?_
   refine j5 hn ?_
   refine Z7 hx62 ?_
   refine j4.seqQ fun _ A31 _ R31=>?_
   refine j4.seqQ fun _ A32 _ _=>?_
   obtain ⟨o66,h65,h57⟩:=l5 h57
   refine jk (ι:={ s // o66=s }) hn (fun s=>[(156,.bool s.1)]) (fun s=>[]) [(3,_),(11,_),(12,_),(128,_),(129,_),(130,_)] [(3,_),(12,_)] (fun _ A33 _ _=>?_) ?_
   ·refine kp [(3,_),(11,_),(12,_),(128,_),(129,_),(130,_)] [(3,_),(12,_)] ?_
    refine god hn (by kernel_rfl) ?_
    obtain ⟨x67,hx68,h65⟩:=l5 h65
    refine U9 hx68 ?_
    refine l8 h65 (fun hb69 h65=>?_) (fun hb69 h65=>?_)
    ·refine j3 hb69 ?_
     refine j3 hb69 ?_
     refine j3 hb69 ?_
     refine j3 hb69 ?_
     refine j3 hb69 ?_
     refine j3 hb69 ?_
     refine j3 hb69 ?_
     refine j3 hb69 ?_
     refine j3 hb69 ?_
     refine j3 hb69 ?_
     refine j3 hb69 ?_
     refine A33 _ _ ?_
     exact jn ⟨_,sj h65⟩ []
    refine d9 hb69 ?_
    refine d9 hb69 ?_
    refine C9 (fun _=>?_)
    refine d9 hb69 ?_
    refine d9 hb69 ?_
    refine d9 hb69 ?_
    refine d9 hb69 ?_
    obtain ⟨x71,hx72,h65⟩:=l5 h65
    refine U9 hx72 ?_
    refine d9 hb69 ?_
    refine d9 hb69 ?_
    refine d9 hb69 ?_
    refine C9 (fun _=>?_)
    refine d9 hb69 ?_
    refine d9 hb69 ?_
    refine A33 _ _ ?_
    exact jn ⟨_,sj h65⟩ []
   rintro ⟨v64,hv_⟩
   replace hv_:=hv_.symm
   subst hv_
   refine A32 _ _ ?_
   refine q8 hn ?_
   refine l8 h57 (fun hb74 h57=>?_) (fun hb74 h57=>?_)
   ·refine j5 hn ?_
    refine got hn ?_
    refine R31 _ _ ?_
    refine R30 _ _ ?_
    refine R29 _ _ ?_
    refine R26 _ _ ?_
    refine R25 _ _ ?_
    refine R24 _ _ ?_
    refine R23 _ _ ?_
    obtain rfl:=Option.some.inj h57
    obtain rfl:=Option.some.inj h
    exact ⟨[],_,fm⟩
   refine x9 hn ?_
   refine A31 _ _ ?_
   refine j5 hn ?_
   refine C9 (fun hl75=>?_)
   obtain ⟨o77,h78,h57⟩:=l5 h57
   refine jk (ι:={ s // o77=U2.next s }) hn (fun s=>[]) (fun s=>[]) [(3,_),(128,_),(129,_),(130,_)] [(3,_)] (fun _ A34 _ R34=>?_) ?_
   ·refine j4.blkQ fun _ _ E35 _ R35=>?_
    refine lq (ι:={ q:((List V)×Nat) // q.1=x61.slots.drop q.2∧J2 N a1 k55 q.1 q.2=some o77 }) hn (fun q=>[(160,.int (q.1.2:Int))]) (fun q=>[]) (fun q=>q.1.1.length) [(3,_),(11,_),(12,_),(128,_),(129,_),(130,_),(159,_)] [(3,_),(12,_)] ⟨(x61.slots,0),rfl,h78⟩ [] ?_
    rintro ⟨⟨rest_,k76⟩,hd80,h78⟩ _ A36 X36 R36
    replace hd80:rest_=x61.slots.drop k76:=hd80
    rcases rest_ with _|⟨x82,rest79⟩
    ·have hlt84:=I7 hd80
     replace h78:=(J2.eq_1 _ _ _ _).symm.trans h78
     refine j5 hn ?_
     refine j4.seqQ fun _ _ X37 _=>?_
     refine q8 hn ?_
     refine d9 hlt84 ?_
     refine I4 hn ?_
     refine X37 _ _ _ ?_
     refine X36 _ _ _ ?_
     refine E35 _ _ ?_
     refine A34 _ _ ?_
     exact jn ⟨_,sj h78⟩ []
    ·obtain ⟨hx83,hd2,hlt84⟩:=D9 hd80
     replace h78:=(J2.eq_2 _ _ _ _ _ _).symm.trans h78
     refine j5 hn ?_
     refine j4.seqQ fun _ A38 _ _=>?_
     refine q8 hn ?_
     refine j3 hlt84 ?_
     refine x9 hn ?_
     refine A38 _ _ ?_
     refine j4.seqQ fun _ A39 _ R39=>?_
     refine j4.blkQ fun _ A40 _ _ R40=>?_
     refine j5 hn ?_
     refine j4.seqQ fun _ A41 _ _=>?_
     refine god hn (by kernel_rfl) ?_
     refine Z7 hx83 ?_
     obtain ⟨x85,hx86,h78⟩:=l5 h78
     refine U9 hx86 ?_
     obtain ⟨x87,hx88,h78⟩:=l5 h78
     refine U9 hx88 ?_
     refine A41 _ _ ?_
     refine q8 hn ?_
     refine l8 h78 (fun hb89 h78=>?_) (fun hb89 h78=>?_)
     ·refine kp [] [] ?_
      refine j5 hn ?_
      refine got hn ?_
      refine R40 _ _ ?_
      refine R39 _ _ ?_
      refine R36 _ _ ?_
      refine R35 _ _ ?_
      refine R34 _ _ ?_
      refine R30 _ _ ?_
      refine R29 _ _ ?_
      refine R26 _ _ ?_
      refine R25 _ _ ?_
      refine R24 _ _ ?_
      refine R23 _ _ ?_
      obtain rfl:=Option.some.inj h78
      obtain rfl:=Option.some.inj h57
      obtain rfl:=Option.some.inj h
      exact ⟨[],_,fm⟩
     refine x9 hn ?_
     refine A40 _ _ ?_
     refine A39 _ _ ?_
     refine kp [(3,_),(11,_),(12,_),(128,_),(129,_),(130,_),(159,_),(160,_)] [(3,_),(12,_)] ?_
     refine w9 hn ?_
     refine Or.inl (And.intro (X9 hx83 hl75) ?_)
     refine A36 _ _ ?_
     exact jn ⟨(rest79,k76+1),hd2,h78⟩ [] (by show rest79.length < rest79.length+1; omega)
   rintro ⟨⟨⟩,rfl⟩
   refine A30 _ _ ?_
   refine A29 _ _ ?_
   refine w9 hn ?_
   refine Or.inl (And.intro (X9 hx62 hl54) ?_)
   refine A26 _ _ ?_
   exact jn ⟨(rest58,k55+1),hd2,h57⟩ [] (by show rest58.length < rest58.length+1; omega)
 rintro ⟨⟨⟩,rfl⟩
 refine A23 _ _ ?_
 refine j5 hn ?_
 refine got hn ?_
 obtain rfl:=Option.some.inj h
 exact ⟨[],_,fm⟩

/- qcref1.Make -/
set_option maxRecDepth 100000 in
set_option maxHeartbeats 8000000 in
theorem bE2 (N:Nat) (a0:Wd) (a1:ByteArray) (a2:Int) (a3:Int) (r:(Wd×Int×Int)) (h:aD1 N a0 a1 a2 a3=some r):Spec Try.prog 33 [] [.agg (eWd a0),.str a1,.int a2,.int a3] (.tup [.agg (eWd r.1),.int r.2.1,.int r.2.2]) [] []:=by
 refine Spec.of G5 Try.func33 rfl Try.ntmps33 (by kernel_rfl) rfl rfl rfl fun Γ hn=>?_
 unfold aD1 at h
 refine j5 hn ?_
 refine j4.seqQ fun _ A0 _ R0=>?_
 refine j5 hn ?_
 obtain ⟨r1,hr2,h⟩:=l5 h
 show p9 Try.prog _ _ _ _
 refine cA (aQ1 N a1 r1 hr2) ?_
 refine q8 hn ?_
 refine l8 h (fun hb3 h=>?_) (fun hb3 h=>?_)
 ·refine j5 hn ?_
  refine got hn ?_
  refine R0 _ _ ?_
  obtain rfl:=Option.some.inj h
  exact ⟨[],_,fm⟩
 refine x9 hn ?_
 refine A0 _ _ ?_
 refine j4.seqQ fun _ A1 _ R1=>?_
 refine j5 hn ?_
 refine C9 (fun hl4=>?_)
 obtain ⟨o6,h7,h⟩:=l5 h
 refine jk (ι:={ s // o6=U2.next s }) hn (fun s=>[]) (fun s=>[]) [(1,_),(2,_),(3,_),(4,_),(8,_)] [(4,_),(8,_)] (fun _ A2 _ R2=>?_) ?_
 ·refine j4.blkQ fun _ _ E3 _ R3=>?_
  refine lq (ι:={ q:((List Cl)×Nat) // q.1=a0.classes.drop q.2∧K9 N a1 q.1 q.2=some o6 }) hn (fun q=>[(21,.int (q.1.2:Int))]) (fun q=>[]) (fun q=>q.1.1.length) [(1,_),(2,_),(3,_),(4,_),(8,_),(19,_),(20,_)] [(4,_),(8,_)] ⟨(a0.classes,0),rfl,h7⟩ [] ?_
  rintro ⟨⟨rest_,k5⟩,hd9,h7⟩ _ A4 X4 R4
  replace hd9:rest_=a0.classes.drop k5:=hd9
  rcases rest_ with _|⟨x11,rest8⟩
  ·have hlt13:=I7 hd9
   replace h7:=(K9.eq_1 _ _ _).symm.trans h7
   refine j5 hn ?_
   refine j4.seqQ fun _ _ X5 _=>?_
   refine q8 hn ?_
   refine d9 hlt13 ?_
   refine I4 hn ?_
   refine X5 _ _ _ ?_
   refine X4 _ _ _ ?_
   refine E3 _ _ ?_
   refine A2 _ _ ?_
   exact jn ⟨_,sj h7⟩ []
  ·obtain ⟨hx12,hd2,hlt13⟩:=D9 hd9
   replace h7:=(K9.eq_2 _ _ _ _ _).symm.trans h7
   refine j5 hn ?_
   refine j4.seqQ fun _ A6 _ _=>?_
   refine q8 hn ?_
   refine j3 hlt13 ?_
   refine x9 hn ?_
   refine A6 _ _ ?_
   refine j4.seqQ fun _ A7 _ R7=>?_
   refine j4.blkQ fun _ A8 _ _ R8=>?_
   refine j5 hn ?_
   refine Z7 hx12 ?_
   refine j5 hn ?_
   refine q8 hn ?_
   refine l8 h7 (fun hb14 h7=>?_) (fun hb14 h7=>?_)
   ·refine j5 hn ?_
    refine got hn ?_
    refine R8 _ _ ?_
    refine R7 _ _ ?_
    refine R4 _ _ ?_
    refine R3 _ _ ?_
    refine R2 _ _ ?_
    refine R1 _ _ ?_
    obtain rfl:=Option.some.inj h7
    obtain rfl:=Option.some.inj h
    exact ⟨[],_,fm⟩
   refine x9 hn ?_
   refine A8 _ _ ?_
   refine A7 _ _ ?_
   refine w9 hn ?_
   refine Or.inl (And.intro (X9 hx12 hl4) ?_)
   refine A4 _ _ ?_
   exact jn ⟨(rest8,k5+1),hd2,h7⟩ [] (by show rest8.length < rest8.length+1; omega)
 rintro ⟨⟨⟩,rfl⟩
 refine A1 _ _ ?_
 refine j4.seqQ fun _ A9 _ R9=>?_
 refine j4.seqQ fun _ A10 _ _=>?_
 obtain ⟨o17,h16,h⟩:=l5 h
 refine jk (ι:={ s // o17=s }) hn (fun s=>[(39,.bool s.1)]) (fun s=>[]) [(1,_),(2,_),(3,_),(4,_),(8,_)] [(4,_),(8,_)] (fun _ A11 _ _=>?_) ?_
 ·refine w9 hn ?_
  refine l8 h16 (fun hb18 h16=>?_) (fun hb18 h16=>?_)
  ·refine j3 hb18 ?_
   refine j3 hb18 ?_
   refine j3 hb18 ?_
   refine j3 hb18 ?_
   refine j3 hb18 ?_
   refine A11 _ _ ?_
   exact jn ⟨_,sj h16⟩ []
  refine d9 hb18 ?_
  refine d9 hb18 ?_
  refine d9 hb18 ?_
  refine C9 (fun _=>?_)
  refine d9 hb18 ?_
  refine d9 hb18 ?_
  refine A11 _ _ ?_
  exact jn ⟨_,sj h16⟩ []
 rintro ⟨v15,hv_⟩
 replace hv_:=hv_.symm
 subst hv_
 refine A10 _ _ ?_
 refine q8 hn ?_
 refine l8 h (fun hb20 h=>?_) (fun hb20 h=>?_)
 ·refine j5 hn ?_
  refine got hn ?_
  refine R9 _ _ ?_
  obtain rfl:=Option.some.inj h
  exact ⟨[],_,fm⟩
 refine x9 hn ?_
 refine A9 _ _ ?_
 refine j4.seqQ fun _ A12 _ R12=>?_
 refine j4.seqQ fun _ A13 _ _=>?_
 obtain ⟨o23,h22,h⟩:=l5 h
 refine jk (ι:={ s // o23=s }) hn (fun s=>[(62,.bool s.1)]) (fun s=>[]) [(1,_),(2,_),(3,_),(4,_),(8,_)] [(4,_),(8,_)] (fun _ A14 _ _=>?_) ?_
 ·refine w9 hn ?_
  refine l8 h22 (fun hb24 h22=>?_) (fun hb24 h22=>?_)
  ·refine j3 hb24 ?_
   refine j3 hb24 ?_
   refine A14 _ _ ?_
   exact jn ⟨_,sj h22⟩ []
  refine d9 hb24 ?_
  refine d9 hb24 ?_
  refine l8 h22 (fun hb25 h22=>?_) (fun hb25 h22=>?_)
  ·refine j3 hb25 ?_
   refine j3 hb25 ?_
   refine j3 hb25 ?_
   refine j3 hb25 ?_
   refine j3 hb25 ?_
   refine j3 hb25 ?_
   refine A14 _ _ ?_
   exact jn ⟨_,sj h22⟩ []
  refine d9 hb25 ?_
  refine d9 hb25 ?_
  refine d9 hb25 ?_
  obtain ⟨r26,hr27,h22⟩:=l5 h22
  show p9 Try.prog _ _ _ _
  refine cA (aN3 N a0 a2 r26 hr27) ?_
  refine d9 hb25 ?_
  refine Or.inr ?_
  refine d9 hb25 ?_
  refine d9 hb25 ?_
  refine l8 h22 (fun hb28 h22=>?_) (fun hb28 h22=>?_)
  ·refine j3 hb28 ?_
   refine j3 hb28 ?_
   refine j3 hb28 ?_
   refine j3 hb28 ?_
   refine A14 _ _ ?_
   exact jn ⟨_,sj h22⟩ []
  refine d9 hb28 ?_
  refine d9 hb28 ?_
  refine l8 h22 (fun hb29 h22=>?_) (fun hb29 h22=>?_)
  ·refine j3 hb29 ?_
   refine d9 hb28 ?_
   refine j3 hb29 ?_
   refine d9 hb28 ?_
   refine A14 _ _ ?_
   exact jn ⟨_,sj h22⟩ []
  refine d9 hb29 ?_
  refine d9 hb28 ?_
  refine d9 hb29 ?_
  refine d9 hb28 ?_
  refine A14 _ _ ?_
  exact jn ⟨_,sj h22⟩ []
 rintro ⟨v21,hv_⟩
 replace hv_:=hv_.symm
 subst hv_
 refine A13 _ _ ?_
 refine q8 hn ?_
 refine l8 h (fun hb30 h=>?_) (fun hb30 h=>?_)
 ·refine j5 hn ?_
  refine got hn ?_
  refine R12 _ _ ?_
  obtain rfl:=Option.some.inj h
  exact ⟨[],_,fm⟩
 refine x9 hn ?_
 refine A12 _ _ ?_
 refine j4.seqQ fun _ A15 _ R15=>?_
 refine j5 hn ?_
 refine C9 (fun _=>?_)
 refine q8 hn ?_
 refine l8 h (fun hb32 h=>?_) (fun hb32 h=>?_)
 ·refine j5 hn ?_
  refine got hn ?_
  refine R15 _ _ ?_
  obtain rfl:=Option.some.inj h
  exact ⟨[],_,fm⟩
 refine x9 hn ?_
 refine A15 _ _ ?_
 refine j5 hn ?_
 refine C9 (fun _=>?_)
 refine j5 hn ?_
 refine Or.inr ?_
 refine Exists.intro (List.map U7 ([]:List Cl)) (And.intro (by repeat (first|exact trivial|exact rfl|(refine And.intro ?_ ?_))) ?_)
 obtain ⟨hg34,h⟩:=K3 h
 refine aD5 (l2:=a0.classes) hg34 (D5 _) ?_
 refine Or.inr ?_
 refine Exists.intro (List.map U7 [(⟨a1,a2,a3,[]⟩:Cl)]) (And.intro (by repeat (first|exact trivial|exact rfl|(refine And.intro ?_ ?_))) ?_)
 obtain ⟨hg35,h⟩:=K3 h
 refine aD5 (l2:=[(⟨a1,a2,a3,[]⟩:Cl)]) hg35 (D5 _) ?_
 refine kp [(4,_),(8,_),(13,_)] [(4,_),(8,_),(81,_)] ?_
 refine j5 hn ?_
 refine j4.fzAll 81 rfl ?_
 refine got hn ?_
 obtain rfl:=Option.some.inj h
 exact ⟨[],_,fm⟩

/- qcref1.Install -/
set_option maxRecDepth 100000 in
set_option maxHeartbeats 8000000 in
theorem aY3 (N:Nat) (a0:Wd) (a1:Int) (a2:Me) (r:(Wd×Int)) (h:Y5 N a0 a1 a2=some r):Spec Try.prog 35 [] [.agg (eWd a0),.int a1,.agg (D6 a2)] (.tup [.agg (eWd r.1),.int r.2]) [] []:=by
 refine Spec.of G5 Try.func35 rfl Try.ntmps35 (by kernel_rfl) rfl rfl rfl fun Γ hn=>?_
 unfold Y5 at h
 refine j5 hn ?_
 refine j4.seqQ fun _ A0 _ R0=>?_
 refine j4.seqQ fun _ A1 _ _=>?_
 obtain ⟨o3,h2,h⟩:=l5 h
 refine jk (ι:={ s // o3=s }) hn (fun s=>[(21,.bool s.1)]) (fun s=>[]) [(1,_),(3,_),(5,_),(6,_)] [(3,_),(5,_),(6,_)] (fun _ A2 _ _=>?_) ?_
 ·refine w9 hn ?_
  refine l8 h2 (fun hb4 h2=>?_) (fun hb4 h2=>?_)
  ·refine j3 hb4 ?_
   refine j3 hb4 ?_
   refine j3 hb4 ?_
   refine j3 hb4 ?_
   refine j3 hb4 ?_
   refine A2 _ _ ?_
   exact jn ⟨_,sj h2⟩ []
  refine d9 hb4 ?_
  refine d9 hb4 ?_
  refine d9 hb4 ?_
  refine C9 (fun _=>?_)
  refine d9 hb4 ?_
  refine d9 hb4 ?_
  refine A2 _ _ ?_
  exact jn ⟨_,sj h2⟩ []
 rintro ⟨v1,hv_⟩
 replace hv_:=hv_.symm
 subst hv_
 refine A1 _ _ ?_
 refine q8 hn ?_
 refine l8 h (fun hb6 h=>?_) (fun hb6 h=>?_)
 ·refine j5 hn ?_
  refine got hn ?_
  refine R0 _ _ ?_
  obtain rfl:=Option.some.inj h
  exact ⟨[],_,fm⟩
 refine x9 hn ?_
 refine A0 _ _ ?_
 refine j5 hn ?_
 refine j5 hn ?_
 refine j4.seqQ fun _ A3 _ _=>?_
 refine j5 hn ?_
 obtain ⟨x7,hx8,h⟩:=l5 h
 refine U9 hx8 ?_
 refine C9 (fun hl9=>?_)
 refine j4.nilrow 8 208 5 64 rfl rfl rfl ?_
 obtain ⟨o20,h21,h⟩:=l5 h
 refine jk (ι:={ s // o20=s }) hn (fun s=>[(9,.bool s.1.2.1),(10,.bool s.1.2.2)]) (fun s=>[(208,.row 5 (List.map D6 s.1.1) 64)]) [(1,_),(3,_),(5,_),(6,_),(8,_)] [(3,_),(5,_),(6,_)] (fun _ A4 _ _=>?_) ?_
 ·refine j4.blkQ fun _ _ E5 _ _=>?_
  refine lq (ι:={ q:((List Me)×Nat×(List Me)×Bool×Bool) // q.1=x7.methods.drop q.2.1∧D8 N a2 q.1 q.2.1 q.2.2.1 q.2.2.2.1 q.2.2.2.2=some o20 }) hn (fun q=>[(9,.bool q.1.2.2.2.1),(10,.bool q.1.2.2.2.2),(30,.int (q.1.2.1:Int))]) (fun q=>[(208,.row 5 (List.map D6 q.1.2.2.1) 64)]) (fun q=>q.1.1.length) [(1,_),(3,_),(5,_),(6,_),(8,_),(28,_),(29,_)] [(3,_),(5,_),(6,_)] ⟨(x7.methods,0,([]:List Me),false,false),rfl,h21⟩ [] ?_
  rintro ⟨⟨rest_,k10,v11,v12,v13⟩,hd23,h21⟩ _ A6 X6 _
  replace hd23:rest_=x7.methods.drop k10:=hd23
  rcases rest_ with _|⟨x25,rest22⟩
  ·have hlt27:=I7 hd23
   replace h21:=(D8.eq_1 _ _ _ _ _ _).symm.trans h21
   refine j5 hn ?_
   refine j4.seqQ fun _ _ X7 _=>?_
   refine q8 hn ?_
   refine d9 hlt27 ?_
   refine I4 hn ?_
   refine X7 _ _ _ ?_
   refine X6 _ _ _ ?_
   refine E5 _ _ ?_
   refine A4 _ _ ?_
   exact jn ⟨_,sj h21⟩ []
  ·obtain ⟨hx26,hd2,hlt27⟩:=D9 hd23
   replace h21:=(D8.eq_2 _ _ _ _ _ _ _ _).symm.trans h21
   refine j5 hn ?_
   refine j4.seqQ fun _ A8 _ _=>?_
   refine q8 hn ?_
   refine j3 hlt27 ?_
   refine x9 hn ?_
   refine A8 _ _ ?_
   refine j4.seqQ fun _ A9 _ _=>?_
   obtain ⟨o32,h31,h21⟩:=l5 h21
   refine jk (ι:={ s // o32=s }) hn (fun s=>[(8,.own 42),(9,.bool s.1.2.1),(10,.bool s.1.2.2)]) (fun s=>[(42,.row 5 (List.map D6 s.1.1) 64)]) [(1,_),(3,_),(5,_),(6,_),(28,_),(29,_),(30,_)] [(3,_),(5,_),(6,_)] (fun _ A10 _ _=>?_) ?_
   ·refine j4.blkQ fun _ A11 E11 _ _=>?_
    refine j5 hn ?_
    refine Z7 hx26 ?_
    refine j4.seqQ fun _ A12 X12 _=>?_
    refine j5 hn ?_
    refine q8 hn ?_
    refine l8 h31 (fun hb33 h31=>?_) (fun hb33 h31=>?_)
    ·refine kp [(1,_),(3,_),(5,_),(6,_),(8,_),(28,_),(29,_),(30,_)] [(3,_),(5,_),(6,_),(208,_)] ?_
     refine j5 hn ?_
     refine Exists.intro (List.map D6 [a2]) (And.intro (by repeat (first|exact trivial|exact rfl|(refine And.intro ?_ ?_))) ?_)
     obtain ⟨hg34,h31⟩:=K3 h31
     refine aD5 (l2:=[a2]) hg34 (D5 _) ?_
     refine j5 hn ?_
     refine I4 hn ?_
     refine X12 _ _ _ ?_
     refine E11 _ _ ?_
     refine A10 _ _ ?_
     exact jn ⟨_,sj h31⟩ []
    refine x9 hn ?_
    refine A12 _ _ ?_
    refine j4.seqQ fun _ A13 _ _=>?_
    refine j4.seqQ fun _ A14 _ _=>?_
    obtain ⟨o37,h36,h31⟩:=l5 h31
    refine jk (ι:={ s // o37=s }) hn (fun s=>[(51,.bool s.1)]) (fun s=>[]) [(1,_),(3,_),(5,_),(6,_),(8,_),(9,_),(10,_),(12,_),(28,_),(29,_),(30,_)] [(3,_),(5,_),(6,_),(12,_),(208,_)] (fun _ A15 _ _=>?_) ?_
    ·refine kp [(1,_),(3,_),(5,_),(6,_),(8,_),(9,_),(10,_),(12,_),(28,_),(29,_),(30,_)] [(3,_),(5,_),(6,_),(12,_),(208,_)] ?_
     refine w9 hn ?_
     refine l8 h36 (fun hb38 h36=>?_) (fun hb38 h36=>?_)
     ·refine j3 hb38 ?_
      refine j3 hb38 ?_
      refine j3 hb38 ?_
      refine j3 hb38 ?_
      refine j3 hb38 ?_
      refine A15 _ _ ?_
      exact jn ⟨_,sj h36⟩ []
     refine d9 hb38 ?_
     refine d9 hb38 ?_
     refine d9 hb38 ?_
     refine d9 hb38 ?_
     refine d9 hb38 ?_
     refine A15 _ _ ?_
     exact jn ⟨_,sj h36⟩ []
    rintro ⟨v35,hv_⟩
    replace hv_:=hv_.symm
    subst hv_
    refine A14 _ _ ?_
    obtain ⟨o42,h41,h31⟩:=l5 h31
    refine jk (ι:={ s // o42=s }) hn (fun s=>[(8,.own 55),(9,.bool s.1.2)]) (fun s=>[(55,.row 5 (List.map D6 s.1.1) 64)]) [(1,_),(3,_),(5,_),(6,_),(10,_),(12,_),(28,_),(29,_),(30,_)] [(3,_),(5,_),(6,_),(12,_)] (fun _ A16 _ _=>?_) ?_
    ·refine q8 hn ?_
     refine l8 h41 (fun hb43 h41=>?_) (fun hb43 h41=>?_)
     ·refine j5 hn ?_
      refine Exists.intro (List.map D6 [a2]) (And.intro (by repeat (first|exact trivial|exact rfl|(refine And.intro ?_ ?_))) ?_)
      obtain ⟨hg44,h41⟩:=K3 h41
      refine aD5 (l2:=[a2]) hg44 (D5 _) ?_
      refine w9 hn ?_
      refine A16 _ _ ?_
      exact jn ⟨_,sj h41⟩ []
     refine x9 hn ?_
     refine A16 _ _ ?_
     exact jn ⟨_,sj h41⟩ [(55,208)]
    rintro ⟨⟨v39,v40⟩,rfl⟩
    refine A13 _ _ ?_
    refine w9 hn ?_
    refine Exists.intro (List.map D6 [x25]) (And.intro (by repeat (first|exact trivial|exact rfl|(refine And.intro ?_ ?_))) ?_)
    obtain ⟨hg45,h31⟩:=K3 h31
    refine aD5 (l2:=[x25]) hg45 (D5 _) ?_
    refine A11 _ _ ?_
    refine A10 _ _ ?_
    exact jn ⟨_,sj h31⟩ [(42,59)]
   rintro ⟨⟨v28,v29,v30⟩,rfl⟩
   refine A9 _ _ ?_
   refine w9 hn ?_
   refine Or.inl (And.intro (X9 hx26 hl9) ?_)
   refine A6 _ _ ?_
   exact jn ⟨(rest22,k10+1,v28,v29,v30),hd2,h21⟩ [(208,42)] (by show rest22.length < rest22.length+1; omega)
 rintro ⟨⟨v17,v18,v19⟩,rfl⟩
 refine A3 _ _ ?_
 refine j4.seqQ fun _ A17 _ _=>?_
 refine j5 hn ?_
 obtain ⟨o48,h47,h⟩:=l5 h
 refine jk (ι:={ s // o48=s }) hn (fun s=>[(8,.own 66)]) (fun s=>[(66,.row 5 (List.map D6 s.1) 64)]) [(1,_),(3,_),(6,_),(10,_)] [(3,_),(6,_)] (fun _ A18 _ _=>?_) ?_
 ·refine q8 hn ?_
  refine l8 h47 (fun hb49 h47=>?_) (fun hb49 h47=>?_)
  ·refine w9 hn ?_
   refine Exists.intro (List.map D6 [a2]) (And.intro (by repeat (first|exact trivial|exact rfl|(refine And.intro ?_ ?_))) ?_)
   obtain ⟨hg50,h47⟩:=K3 h47
   refine aD5 (l2:=[a2]) hg50 (D5 _) ?_
   refine A18 _ _ ?_
   exact jn ⟨_,sj h47⟩ []
  refine x9 hn ?_
  refine A18 _ _ ?_
  exact jn ⟨_,sj h47⟩ [(66,208)]
 rintro ⟨v46,hv_⟩
 replace hv_:=hv_.symm
 subst hv_
 refine A17 _ _ ?_
 refine j4.seqQ fun _ A19 _ R19=>?_
 refine j4.seqQ fun _ A20 _ _=>?_
 obtain ⟨o53,h52,h⟩:=l5 h
 refine jk (ι:={ s // o53=s }) hn (fun s=>[(78,.bool s.1)]) (fun s=>[]) [(1,_),(3,_),(6,_),(8,_)] [(3,_),(6,_),(66,_)] (fun _ A21 _ _=>?_) ?_
 ·refine w9 hn ?_
  refine l8 h52 (fun hb54 h52=>?_) (fun hb54 h52=>?_)
  ·refine j3 hb54 ?_
   refine j3 hb54 ?_
   refine j3 hb54 ?_
   obtain ⟨x55,hx56,h52⟩:=l5 h52
   refine U9 hx56 ?_
   refine j3 hb54 ?_
   refine j3 hb54 ?_
   refine j3 hb54 ?_
   refine C9 (fun _=>?_)
   refine j3 hb54 ?_
   refine j3 hb54 ?_
   refine A21 _ _ ?_
   exact jn ⟨_,sj h52⟩ []
  refine d9 hb54 ?_
  refine d9 hb54 ?_
  refine d9 hb54 ?_
  refine d9 hb54 ?_
  refine d9 hb54 ?_
  refine d9 hb54 ?_
  refine d9 hb54 ?_
  refine d9 hb54 ?_
  refine A21 _ _ ?_
  exact jn ⟨_,sj h52⟩ []
 rintro ⟨v51,hv_⟩
 replace hv_:=hv_.symm
 subst hv_
 refine A20 _ _ ?_
 refine q8 hn ?_
 refine l8 h (fun hb58 h=>?_) (fun hb58 h=>?_)
 ·refine j5 hn ?_
  refine got hn ?_
  refine R19 _ _ ?_
  obtain rfl:=Option.some.inj h
  exact ⟨[],_,fm⟩
 refine x9 hn ?_
 refine A19 _ _ ?_
 refine j5 hn ?_
 refine Or.inr ?_
 refine Exists.intro (List.map U7 ([]:List Cl)) (And.intro (by repeat (first|exact trivial|exact rfl|(refine And.intro ?_ ?_))) ?_)
 obtain ⟨hg59,h⟩:=K3 h
 refine aD5 (l2:=a0.classes) hg59 (D5 _) ?_
 refine j4.fzAll 66 rfl ?_
 refine kp [(1,_),(3,_),(6,_),(8,_)] [(3,_),(6,_),(83,_)] ?_
 refine j5 hn ?_
 obtain ⟨x60,hx61,h⟩:=l5 h
 refine aX3 hx61 ?_
 refine ldM (K8 hx61).2 ?_
 refine Exists.intro (List.map U7 ((([]:List Cl)++a0.classes).set a1.toNat (⟨x60.name,x60.super,x60.slots,v46⟩:Cl))) (And.intro (bJ6 (K8 hx61).2 (by repeat (first|exact trivial|exact rfl|(refine And.intro ?_ ?_)))) ?_)
 refine j5 hn ?_
 refine Or.inr ?_
 refine j5 hn ?_
 refine j4.fzAll 83 rfl ?_
 refine got hn ?_
 obtain rfl:=Option.some.inj h
 exact ⟨[],_,fm⟩

/- qcref1.Rises -/
set_option maxRecDepth 100000 in
set_option maxHeartbeats 8000000 in
theorem bA2 (N:Nat) (a0:Wd) (r:Bool) (h:aB6 N a0=some r):Spec Try.prog 22 [] [.agg (eWd a0)] (.bool r) [] []:=by
 refine Spec.of G5 Try.func22 rfl Try.ntmps22 (by kernel_rfl) rfl rfl rfl fun Γ hn=>?_
 unfold aB6 at h
 refine j5 hn ?_
 refine j4.seqQ fun _ A0 _ R0=>?_
 refine j5 hn ?_
 refine C9 (fun hl1=>?_)
 obtain ⟨o3,h4,h⟩:=l5 h
 refine jk (ι:={ s // o3=U2.next s }) hn (fun s=>[]) (fun s=>[]) [] [] (fun _ A1 _ R1=>?_) ?_
 ·refine j4.blkQ fun _ _ E2 _ R2=>?_
  refine lq (ι:={ q:((List Cl)×Nat) // q.1=a0.classes.drop q.2∧M6 N q.1 q.2=some o3 }) hn (fun q=>[(9,.int (q.1.2:Int))]) (fun q=>[]) (fun q=>q.1.1.length) [(7,_),(8,_)] [] ⟨(a0.classes,0),rfl,h4⟩ [] ?_
  rintro ⟨⟨rest_,k2⟩,hd6,h4⟩ _ A3 X3 R3
  replace hd6:rest_=a0.classes.drop k2:=hd6
  rcases rest_ with _|⟨x8,rest5⟩
  ·have hlt10:=I7 hd6
   replace h4:=(M6.eq_1 _ _).symm.trans h4
   refine j5 hn ?_
   refine j4.seqQ fun _ _ X4 _=>?_
   refine q8 hn ?_
   refine d9 hlt10 ?_
   refine I4 hn ?_
   refine X4 _ _ _ ?_
   refine X3 _ _ _ ?_
   refine E2 _ _ ?_
   refine A1 _ _ ?_
   exact jn ⟨_,sj h4⟩ []
  ·obtain ⟨hx9,hd2,hlt10⟩:=D9 hd6
   replace h4:=(M6.eq_2 _ _ _ _).symm.trans h4
   refine j5 hn ?_
   refine j4.seqQ fun _ A5 _ _=>?_
   refine q8 hn ?_
   refine j3 hlt10 ?_
   refine x9 hn ?_
   refine A5 _ _ ?_
   refine j4.seqQ fun _ A6 _ R6=>?_
   refine j4.blkQ fun _ A7 _ _ R7=>?_
   refine j5 hn ?_
   refine Z7 hx9 ?_
   refine j5 hn ?_
   refine C9 (fun hl11=>?_)
   obtain ⟨o13,h14,h4⟩:=l5 h4
   refine jk (ι:={ s // o13=U2.next s }) hn (fun s=>[]) (fun s=>[]) [(7,_),(8,_),(9,_)] [] (fun _ A8 _ R8=>?_) ?_
   ·refine j4.blkQ fun _ _ E9 _ R9=>?_
    refine lq (ι:={ q:((List Me)×Nat) // q.1=x8.methods.drop q.2∧M7 N x8 q.1 q.2=some o13 }) hn (fun q=>[(16,.int (q.1.2:Int))]) (fun q=>[]) (fun q=>q.1.1.length) [(4,_),(7,_),(8,_),(9,_),(15,_)] [(4,_)] ⟨(x8.methods,0),rfl,h14⟩ [] ?_
    rintro ⟨⟨rest_,k12⟩,hd16,h14⟩ _ A10 X10 R10
    replace hd16:rest_=x8.methods.drop k12:=hd16
    rcases rest_ with _|⟨x18,rest15⟩
    ·have hlt20:=I7 hd16
     replace h14:=(M7.eq_1 _ _ _).symm.trans h14
     refine j5 hn ?_
     refine j4.seqQ fun _ _ X11 _=>?_
     refine q8 hn ?_
     refine d9 hlt20 ?_
     refine I4 hn ?_
     refine X11 _ _ _ ?_
     refine X10 _ _ _ ?_
     refine E9 _ _ ?_
     refine A8 _ _ ?_
     exact jn ⟨_,sj h14⟩ []
    ·obtain ⟨hx19,hd2,hlt20⟩:=D9 hd16
     replace h14:=(M7.eq_2 _ _ _ _ _).symm.trans h14
     refine j5 hn ?_
     refine j4.seqQ fun _ A12 _ _=>?_
     refine q8 hn ?_
     refine j3 hlt20 ?_
     refine x9 hn ?_
     refine A12 _ _ ?_
     refine j4.seqQ fun _ A13 _ R13=>?_
     refine j4.blkQ fun _ A14 _ _ R14=>?_
     refine j5 hn ?_
     refine j4.seqQ fun _ A15 _ _=>?_
     obtain ⟨o23,h22,h14⟩:=l5 h14
     refine jk (ι:={ s // o23=s }) hn (fun s=>[(36,.bool s.1)]) (fun s=>[]) [(4,_),(7,_),(8,_),(9,_),(15,_),(16,_)] [(4,_)] (fun _ A16 _ _=>?_) ?_
     ·refine kp [(4,_),(5,_),(7,_),(8,_),(9,_),(15,_),(16,_)] [(4,_)] ?_
      refine god hn (by kernel_rfl) ?_
      refine l8 h22 (fun hb24 h22=>?_) (fun hb24 h22=>?_)
      ·refine j3 hb24 ?_
       refine j3 hb24 ?_
       refine j3 hb24 ?_
       refine Or.inr ?_
       refine j3 hb24 ?_
       obtain ⟨x25,hx26,h22⟩:=l5 h22
       refine U9 hx26 ?_
       refine j3 hb24 ?_
       refine j3 hb24 ?_
       refine j3 hb24 ?_
       refine j3 hb24 ?_
       refine j3 hb24 ?_
       refine j3 hb24 ?_
       refine Z7 hx19 ?_
       refine j3 hb24 ?_
       refine j3 hb24 ?_
       refine j3 hb24 ?_
       refine j3 hb24 ?_
       refine A16 _ _ ?_
       exact jn ⟨_,sj h22⟩ []
      refine d9 hb24 ?_
      refine d9 hb24 ?_
      refine d9 hb24 ?_
      refine d9 hb24 ?_
      refine d9 hb24 ?_
      refine d9 hb24 ?_
      refine d9 hb24 ?_
      refine d9 hb24 ?_
      refine d9 hb24 ?_
      refine d9 hb24 ?_
      refine d9 hb24 ?_
      refine d9 hb24 ?_
      refine d9 hb24 ?_
      refine d9 hb24 ?_
      refine A16 _ _ ?_
      exact jn ⟨_,sj h22⟩ []
     rintro ⟨v21,hv_⟩
     replace hv_:=hv_.symm
     subst hv_
     refine A15 _ _ ?_
     refine q8 hn ?_
     refine l8 h14 (fun hb27 h14=>?_) (fun hb27 h14=>?_)
     ·refine j5 hn ?_
      refine got hn ?_
      refine R14 _ _ ?_
      refine R13 _ _ ?_
      refine R10 _ _ ?_
      refine R9 _ _ ?_
      refine R8 _ _ ?_
      refine R7 _ _ ?_
      refine R6 _ _ ?_
      refine R3 _ _ ?_
      refine R2 _ _ ?_
      refine R1 _ _ ?_
      refine R0 _ _ ?_
      obtain rfl:=Option.some.inj h14
      obtain rfl:=Option.some.inj h4
      obtain rfl:=Option.some.inj h
      exact ⟨[],_,fm⟩
     refine x9 hn ?_
     refine A14 _ _ ?_
     refine A13 _ _ ?_
     refine w9 hn ?_
     refine Or.inl (And.intro (X9 hx19 hl11) ?_)
     refine A10 _ _ ?_
     exact jn ⟨(rest15,k12+1),hd2,h14⟩ [] (by show rest15.length < rest15.length+1; omega)
   rintro ⟨⟨⟩,rfl⟩
   refine A7 _ _ ?_
   refine A6 _ _ ?_
   refine w9 hn ?_
   refine Or.inl (And.intro (X9 hx9 hl1) ?_)
   refine A3 _ _ ?_
   exact jn ⟨(rest5,k2+1),hd2,h4⟩ [] (by show rest5.length < rest5.length+1; omega)
 rintro ⟨⟨⟩,rfl⟩
 refine A0 _ _ ?_
 refine j5 hn ?_
 refine got hn ?_
 obtain rfl:=Option.some.inj h
 exact ⟨[],_,fm⟩

/- slices.IndexFunc[[]api.Class,api.Class] -/
set_option maxRecDepth 100000 in
set_option maxHeartbeats 8000000 in
theorem Y6 (N:Nat) (a0:(List Cl)) (g1:Cl→Option Bool) {K1:Nat} {c1_0:List AV} (hg1:∀x0_ y_,g1 x0_=some y_→Spec Try.prog K1 [] [.agg (U7 x0_),.fp c1_0] (.bool y_) [] []) (r:Int) (h:F7 N a0 g1=some r):Spec Try.prog 93 [] [.sl 4 (List.map U7 a0),.fn K1 [.fp c1_0]] (.int r) [] []:=by
 refine Spec.of G5 Try.func93 rfl Try.ntmps93 (by kernel_rfl) rfl rfl rfl fun Γ hn=>?_
 unfold F7 at h
 refine j5 hn ?_
 refine j4.seqQ fun _ A0 _ R0=>?_
 refine j5 hn ?_
 refine C9 (fun hl1=>?_)
 obtain ⟨o3,h4,h⟩:=l5 h
 refine jk (ι:={ s // o3=U2.next s }) hn (fun s=>[]) (fun s=>[]) [] [] (fun _ A1 _ R1=>?_) ?_
 ·refine j4.blkQ fun _ _ E2 _ R2=>?_
  refine lq (ι:={ q:((List Cl)×Nat) // q.1=a0.drop q.2∧q9 N g1 q.1 q.2=some o3 }) hn (fun q=>[(8,.int (q.1.2:Int))]) (fun q=>[]) (fun q=>q.1.1.length) [(0,_),(1,_),(7,_)] [] ⟨(a0,0),rfl,h4⟩ [] ?_
  rintro ⟨⟨rest_,k2⟩,hd6,h4⟩ _ A3 X3 R3
  replace hd6:rest_=a0.drop k2:=hd6
  rcases rest_ with _|⟨x8,rest5⟩
  ·have hlt10:=I7 hd6
   replace h4:=(q9.eq_1 _ _ _).symm.trans h4
   refine j5 hn ?_
   refine j4.seqQ fun _ _ X4 _=>?_
   refine q8 hn ?_
   refine d9 hlt10 ?_
   refine I4 hn ?_
   refine X4 _ _ _ ?_
   refine X3 _ _ _ ?_
   refine E2 _ _ ?_
   refine A1 _ _ ?_
   exact jn ⟨_,sj h4⟩ []
  ·obtain ⟨hx9,hd2,hlt10⟩:=D9 hd6
   replace h4:=(q9.eq_2 _ _ _ _ _).symm.trans h4
   refine j5 hn ?_
   refine j4.seqQ fun _ A5 _ _=>?_
   refine q8 hn ?_
   refine j3 hlt10 ?_
   refine x9 hn ?_
   refine A5 _ _ ?_
   refine j4.seqQ fun _ A6 _ R6=>?_
   refine j4.blkQ fun _ A7 _ _ R7=>?_
   refine j5 hn ?_
   refine j5 hn ?_
   refine Z7 hx9 ?_
   obtain ⟨r11,hr12,h4⟩:=l5 h4
   show p9 Try.prog _ _ _ _
   refine cA (hg1 _ _ hr12) ?_
   refine q8 hn ?_
   refine l8 h4 (fun hb13 h4=>?_) (fun hb13 h4=>?_)
   ·refine j5 hn ?_
    refine got hn ?_
    refine R7 _ _ ?_
    refine R6 _ _ ?_
    refine R3 _ _ ?_
    refine R2 _ _ ?_
    refine R1 _ _ ?_
    refine R0 _ _ ?_
    obtain rfl:=Option.some.inj h4
    obtain rfl:=Option.some.inj h
    exact ⟨[],_,fm⟩
   refine x9 hn ?_
   refine A7 _ _ ?_
   refine A6 _ _ ?_
   refine w9 hn ?_
   refine Or.inl (And.intro (X9 hx9 hl1) ?_)
   refine A3 _ _ ?_
   exact jn ⟨(rest5,k2+1),hd2,h4⟩ [] (by show rest5.length < rest5.length+1; omega)
 rintro ⟨⟨⟩,rfl⟩
 refine A0 _ _ ?_
 refine j5 hn ?_
 refine got hn ?_
 obtain rfl:=Option.some.inj h
 exact ⟨[],_,fm⟩

/- slices.ContainsFunc[[]api.Class,api.Class] -/
set_option maxRecDepth 100000 in
set_option maxHeartbeats 8000000 in
theorem V9 (N:Nat) (a0:(List Cl)) (g1:Cl→Option Bool) {K1:Nat} {c1_0:List AV} (hg1:∀x0_ y_,g1 x0_=some y_→Spec Try.prog K1 [] [.agg (U7 x0_),.fp c1_0] (.bool y_) [] []) (r:Bool) (h:y9 N a0 g1=some r):Spec Try.prog 68 [] [.sl 4 (List.map U7 a0),.fn K1 [.fp c1_0]] (.bool r) [] []:=by
 refine Spec.of G5 Try.func68 rfl Try.ntmps68 (by kernel_rfl) rfl rfl rfl fun Γ hn=>?_
 unfold y9 at h
 refine j5 hn ?_
 refine j5 hn ?_
 obtain ⟨r1,hr2,h⟩:=l5 h
 show p9 Try.prog _ _ _ _
 refine cA (Y6 N a0 g1 hg1 r1 hr2) ?_
 refine got hn ?_
 obtain rfl:=Option.some.inj h
 exact ⟨[],_,fm⟩

/- class.Make$1 -/
set_option maxRecDepth 100000 in
set_option maxHeartbeats 8000000 in
theorem bA1 (N:Nat) (a0:Cl) (b0:ByteArray) (r:Bool) (h:Q9 N a0 b0=some r):Spec Try.prog 69 [] [.agg (U7 a0),.fp [.str b0]] (.bool r) [] []:=by
 refine Spec.of G5 Try.func69 rfl Try.ntmps69 (by kernel_rfl) rfl rfl rfl fun Γ hn=>?_
 unfold Q9 at h
 refine j5 hn ?_
 refine j5 hn ?_
 refine got hn ?_
 obtain rfl:=Option.some.inj h
 exact ⟨[],_,fm⟩

/- class.Own -/
set_option maxRecDepth 100000 in
set_option maxHeartbeats 8000000 in
theorem bB0 (N:Nat) (a0:Wd) (r:Wd) (h:aC8 N a0=some r):Spec Try.prog 25 [] [.agg (eWd a0)] (.agg [.own 0,.sl 2 (List.map eOb r.heap),.int r.epoch]) [(0,.row 4 (List.map U7 r.classes) 67)] [0]:=by
 refine Spec.of G5 Try.func25 rfl Try.ntmps25 (by kernel_rfl) rfl rfl rfl fun Γ hn=>?_
 unfold aC8 at h
 refine j5 hn ?_
 refine j4.seqQ fun _ A0 _ _=>?_
 refine god hn (by kernel_rfl) ?_
 obtain ⟨r1,hr2,h⟩:=l5 h
 show p9 Try.prog _ _ _ _
 refine cA (((aL1 N a0.heap r1 hr2).sw 0 11).sw 1 711) ?_
 refine A0 _ _ ?_
 refine j4.seqQ fun _ A1 _ _=>?_
 refine j5 hn ?_
 refine C9 (fun hl3=>?_)
 refine j4.nilrowB 3 0 501 4 67 rfl rfl rfl rfl rfl rfl ?_
 obtain ⟨o8,h9,h⟩:=l5 h
 refine jk (ι:={ s // o8=s }) hn (fun s=>[]) (fun s=>[(501,.row 4 (List.map U7 s.1) 67)]) [(2,_),(3,_)] [(2,_),(3,_),(11,_),(711,_)] (fun _ A2 _ _=>?_) ?_
 ·refine j4.blkQ fun _ _ E3 _ _=>?_
  refine lq (ι:={ q:((List Cl)×Nat×(List Cl)) // q.1=a0.classes.drop q.2.1∧L9 N q.1 q.2.1 q.2.2=some o8 }) hn (fun q=>[(18,.int (q.1.2.1:Int))]) (fun q=>[(501,.row 4 (List.map U7 q.1.2.2) 67)]) (fun q=>q.1.1.length) [(2,_),(3,_),(16,_),(17,_)] [(2,_),(3,_),(11,_),(711,_)] ⟨(a0.classes,0,([]:List Cl)),rfl,h9⟩ [] ?_
  rintro ⟨⟨rest_,k4,v5⟩,hd11,h9⟩ _ A4 X4 _
  replace hd11:rest_=a0.classes.drop k4:=hd11
  rcases rest_ with _|⟨x13,rest10⟩
  ·have hlt15:=I7 hd11
   replace h9:=(L9.eq_1 _ _ _).symm.trans h9
   refine j5 hn ?_
   refine j4.seqQ fun _ _ X5 _=>?_
   refine q8 hn ?_
   refine d9 hlt15 ?_
   refine I4 hn ?_
   refine X5 _ _ _ ?_
   refine X4 _ _ _ ?_
   refine E3 _ _ ?_
   refine A2 _ _ ?_
   exact jn ⟨_,sj h9⟩ []
  ·obtain ⟨hx14,hd2,hlt15⟩:=D9 hd11
   replace h9:=(L9.eq_2 _ _ _ _ _).symm.trans h9
   refine j5 hn ?_
   refine j4.seqQ fun _ A6 _ _=>?_
   refine q8 hn ?_
   refine j3 hlt15 ?_
   refine x9 hn ?_
   refine A6 _ _ ?_
   refine j4.seqQ fun _ A7 _ _=>?_
   refine j4.blkQ fun _ A8 _ _ _=>?_
   refine j5 hn ?_
   refine Z7 hx14 ?_
   refine j5 hn ?_
   refine j4.seqQ fun _ A9 _ _=>?_
   refine j5 hn ?_
   refine C9 (fun hl16=>?_)
   refine j4.nilrow 6 206 5 64 rfl rfl rfl ?_
   obtain ⟨o21,h22,h9⟩:=l5 h9
   refine jk (ι:={ s // o21=s }) hn (fun s=>[]) (fun s=>[(206,.row 5 (List.map D6 s.1) 64)]) [(2,_),(3,_),(5,_),(6,_),(16,_),(17,_),(18,_)] [(2,_),(3,_),(5,_),(11,_),(501,_),(711,_)] (fun _ A10 _ _=>?_) ?_
   ·refine j4.blkQ fun _ _ E11 _ _=>?_
    refine lq (ι:={ q:((List Me)×Nat×(List Me)) // q.1=x13.methods.drop q.2.1∧M0 N q.1 q.2.1 q.2.2=some o21 }) hn (fun q=>[(25,.int (q.1.2.1:Int))]) (fun q=>[(206,.row 5 (List.map D6 q.1.2.2) 64)]) (fun q=>q.1.1.length) [(2,_),(3,_),(5,_),(6,_),(16,_),(17,_),(18,_),(23,_),(24,_)] [(2,_),(3,_),(5,_),(11,_),(501,_),(711,_)] ⟨(x13.methods,0,([]:List Me)),rfl,h22⟩ [] ?_
    rintro ⟨⟨rest_,k17,v18⟩,hd24,h22⟩ _ A12 X12 _
    replace hd24:rest_=x13.methods.drop k17:=hd24
    rcases rest_ with _|⟨x26,rest23⟩
    ·have hlt28:=I7 hd24
     replace h22:=(M0.eq_1 _ _ _).symm.trans h22
     refine j5 hn ?_
     refine j4.seqQ fun _ _ X13 _=>?_
     refine q8 hn ?_
     refine d9 hlt28 ?_
     refine I4 hn ?_
     refine X13 _ _ _ ?_
     refine X12 _ _ _ ?_
     refine E11 _ _ ?_
     refine A10 _ _ ?_
     exact jn ⟨_,sj h22⟩ []
    ·obtain ⟨hx27,hd2,hlt28⟩:=D9 hd24
     replace h22:=(M0.eq_2 _ _ _ _ _).symm.trans h22
     refine j5 hn ?_
     refine j4.seqQ fun _ A14 _ _=>?_
     refine q8 hn ?_
     refine j3 hlt28 ?_
     refine x9 hn ?_
     refine A14 _ _ ?_
     refine j4.seqQ fun _ A15 _ _=>?_
     refine j4.blkQ fun _ A16 _ _ _=>?_
     refine j5 hn ?_
     refine Z7 hx27 ?_
     refine w9 hn ?_
     obtain ⟨r29,hr30,h22⟩:=l5 h22
     show p9 Try.prog _ _ _ _
     refine cA (V6 N x26 r29 hr30) ?_
     refine Exists.intro (List.map D6 [r29]) (And.intro (by repeat (first|exact trivial|exact rfl|(refine And.intro ?_ ?_))) ?_)
     obtain ⟨hg31,h22⟩:=K3 h22
     refine aD5 (l2:=[r29]) hg31 (D5 _) ?_
     refine A16 _ _ ?_
     refine A15 _ _ ?_
     refine kp [(2,_),(3,_),(5,_),(6,_),(16,_),(17,_),(18,_),(23,_),(24,_),(25,_)] [(2,_),(3,_),(5,_),(11,_),(33,_),(501,_),(711,_)] ?_
     refine w9 hn ?_
     refine Or.inl (And.intro (X9 hx27 hl16) ?_)
     refine A12 _ _ ?_
     exact jn ⟨(rest23,k17+1,(v18++[r29])),hd2,h22⟩ [(206,33)] (by show rest23.length < rest23.length+1; omega)
   rintro ⟨v20,hv_⟩
   replace hv_:=hv_.symm
   subst hv_
   refine A9 _ _ ?_
   refine j5 hn ?_
   refine w9 hn ?_
   refine Or.inr ?_
   refine Exists.intro (List.map U7 [(⟨x13.name,x13.super,x13.slots,v20⟩:Cl)]) (And.intro (by repeat (first|exact trivial|exact rfl|(refine And.intro ?_ ?_))) ?_)
   obtain ⟨hg32,h9⟩:=K3 h9
   refine aD5 (l2:=[(⟨x13.name,x13.super,x13.slots,v20⟩:Cl)]) hg32 (D5 _) ?_
   refine A8 _ _ ?_
   refine A7 _ _ ?_
   refine w9 hn ?_
   refine Or.inl (And.intro (X9 hx14 hl3) ?_)
   refine A4 _ _ ?_
   exact jn ⟨(rest10,k4+1,(v5++[(⟨x13.name,x13.super,x13.slots,v20⟩:Cl)])),hd2,h9⟩ [(501,41)] (by show rest10.length < rest10.length+1; omega)
 rintro ⟨v7,hv_⟩
 replace hv_:=hv_.symm
 subst hv_
 refine A1 _ _ ?_
 refine j5 hn ?_
 refine j4.fzAllD 11 rfl ?_
 refine got hn ?_
 obtain rfl:=Option.some.inj h
 exact ⟨[(0,501)],_,fm⟩

/- class.Make -/
set_option maxRecDepth 100000 in
set_option maxHeartbeats 8000000 in
theorem bG0 (N:Nat) (a0:Wd) (a1:ByteArray) (a2:Int) (a3:Int) (r:(Wd×Int×Int)) (h:aE3 N a0 a1 a2 a3=some r):Spec Try.prog 32 [] [.agg (eWd a0),.str a1,.int a2,.int a3] (.tup [.agg (eWd r.1),.int r.2.1,.int r.2.2]) [] []:=by
 refine Spec.of G5 Try.func32 rfl Try.ntmps32 (by kernel_rfl) rfl rfl rfl fun Γ hn=>?_
 unfold aE3 at h
 refine j5 hn ?_
 refine j4.seqQ fun _ A0 _ R0=>?_
 refine j4.blkQ fun _ A1 _ _ R1=>?_
 refine j4.seqQ fun _ A2 _ _=>?_
 refine j4.gh (Gh.fzBox 5 5 rfl rfl rfl) (fun _=>?_)
 obtain ⟨o3,h2,h⟩:=l5 h
 refine jk (ι:={ s // o3=s }) hn (fun s=>[(12,.bool s.1)]) (fun s=>[]) [(2,_),(3,_),(4,_),(5,_),(8,_)] [(4,_),(8,_)] (fun _ A3 _ _=>?_) ?_
 ·refine w9 hn ?_
  obtain ⟨r4,hr5,h2⟩:=l5 h2
  show p9 Try.prog _ _ _ _
  refine cA (aU0 N a1 r4 hr5) ?_
  refine l8 h2 (fun hb6 h2=>?_) (fun hb6 h2=>?_)
  ·refine j3 hb6 ?_
   refine j3 hb6 ?_
   refine j3 hb6 ?_
   refine j3 hb6 ?_
   refine A3 _ _ ?_
   exact jn ⟨_,sj h2⟩ []
  refine d9 hb6 ?_
  refine d9 hb6 ?_
  refine d9 hb6 ?_
  obtain ⟨r7,hr8,h2⟩:=l5 h2
  show p9 Try.prog _ _ _ _
  refine cA (V9 N a0.classes (fun x0_=>Q9 N x0_ a1) (fun x0_ y_ hy_=>bA1 N x0_ a1 y_ hy_) r7 hr8) ?_
  refine d9 hb6 ?_
  refine A3 _ _ ?_
  exact jn ⟨_,sj h2⟩ []
 rintro ⟨v1,hv_⟩
 replace hv_:=hv_.symm
 subst hv_
 refine A2 _ _ ?_
 refine q8 hn ?_
 refine l8 h (fun hb9 h=>?_) (fun hb9 h=>?_)
 ·refine j5 hn ?_
  refine got hn ?_
  refine R1 _ _ ?_
  refine R0 _ _ ?_
  obtain rfl:=Option.some.inj h
  exact ⟨[],_,fm⟩
 refine j4.seqQ fun _ A4 _ _=>?_
 obtain ⟨o12,h11,h⟩:=l5 h
 refine jk (ι:={ s // o12=s }) hn (fun s=>[(23,.bool s.1)]) (fun s=>[]) [(2,_),(3,_),(4,_),(5,_),(8,_)] [(4,_),(8,_)] (fun _ A5 _ _=>?_) ?_
 ·refine w9 hn ?_
  refine l8 h11 (fun hb13 h11=>?_) (fun hb13 h11=>?_)
  ·refine j3 hb13 ?_
   refine j3 hb13 ?_
   refine j3 hb13 ?_
   refine j3 hb13 ?_
   refine j3 hb13 ?_
   refine A5 _ _ ?_
   exact jn ⟨_,sj h11⟩ []
  refine d9 hb13 ?_
  refine d9 hb13 ?_
  refine d9 hb13 ?_
  refine C9 (fun _=>?_)
  refine d9 hb13 ?_
  refine d9 hb13 ?_
  refine A5 _ _ ?_
  exact jn ⟨_,sj h11⟩ []
 rintro ⟨v10,hv_⟩
 replace hv_:=hv_.symm
 subst hv_
 refine A4 _ _ ?_
 refine q8 hn ?_
 refine l8 h (fun hb15 h=>?_) (fun hb15 h=>?_)
 ·refine j5 hn ?_
  refine got hn ?_
  refine R1 _ _ ?_
  refine R0 _ _ ?_
  obtain rfl:=Option.some.inj h
  exact ⟨[],_,fm⟩
 refine j4.seqQ fun _ A6 _ _=>?_
 obtain ⟨o18,h17,h⟩:=l5 h
 refine jk (ι:={ s // o18=s }) hn (fun s=>[(34,.bool s.1)]) (fun s=>[]) [(2,_),(3,_),(4,_),(5,_),(8,_)] [(4,_),(8,_)] (fun _ A7 _ _=>?_) ?_
 ·refine w9 hn ?_
  refine l8 h17 (fun hb19 h17=>?_) (fun hb19 h17=>?_)
  ·refine j3 hb19 ?_
   refine j3 hb19 ?_
   refine j3 hb19 ?_
   refine j3 hb19 ?_
   refine j3 hb19 ?_
   refine j3 hb19 ?_
   refine A7 _ _ ?_
   exact jn ⟨_,sj h17⟩ []
  refine d9 hb19 ?_
  refine d9 hb19 ?_
  refine d9 hb19 ?_
  obtain ⟨r20,hr21,h17⟩:=l5 h17
  show p9 Try.prog _ _ _ _
  refine cA (aP5 N a0 a2 r20 hr21) ?_
  refine d9 hb19 ?_
  refine Or.inr ?_
  refine d9 hb19 ?_
  refine d9 hb19 ?_
  refine l8 h17 (fun hb22 h17=>?_) (fun hb22 h17=>?_)
  ·refine j3 hb22 ?_
   refine j3 hb22 ?_
   refine j3 hb22 ?_
   refine j3 hb22 ?_
   refine A7 _ _ ?_
   exact jn ⟨_,sj h17⟩ []
  refine d9 hb22 ?_
  refine d9 hb22 ?_
  refine l8 h17 (fun hb23 h17=>?_) (fun hb23 h17=>?_)
  ·refine j3 hb23 ?_
   refine d9 hb22 ?_
   refine j3 hb23 ?_
   refine d9 hb22 ?_
   refine A7 _ _ ?_
   exact jn ⟨_,sj h17⟩ []
  refine d9 hb23 ?_
  refine d9 hb22 ?_
  refine d9 hb23 ?_
  refine d9 hb22 ?_
  refine A7 _ _ ?_
  exact jn ⟨_,sj h17⟩ []
 rintro ⟨v16,hv_⟩
 replace hv_:=hv_.symm
 subst hv_
 refine A6 _ _ ?_
 refine q8 hn ?_
 refine l8 h (fun hb24 h=>?_) (fun hb24 h=>?_)
 ·refine j5 hn ?_
  refine got hn ?_
  refine R1 _ _ ?_
  refine R0 _ _ ?_
  obtain rfl:=Option.some.inj h
  exact ⟨[],_,fm⟩
 refine j5 hn ?_
 refine C9 (fun _=>?_)
 refine q8 hn ?_
 refine l8 h (fun hb26 h=>?_) (fun hb26 h=>?_)
 ·refine j5 hn ?_
  refine got hn ?_
  refine R1 _ _ ?_
  refine R0 _ _ ?_
  obtain rfl:=Option.some.inj h
  exact ⟨[],_,fm⟩
 refine x9 hn ?_
 refine A1 _ _ ?_
 refine A0 _ _ ?_
 refine j5 hn ?_
 obtain ⟨r27,hr28,h⟩:=l5 h
 show p9 Try.prog _ _ _ _
 refine cA ((bB0 N a0 r27 hr28).sw 0 61) ?_
 refine j5 hn ?_
 refine Or.inr ?_
 refine Exists.intro (List.map U7 [(⟨a1,a2,a3,[]⟩:Cl)]) (And.intro (by repeat (first|exact trivial|exact rfl|(refine And.intro ?_ ?_))) ?_)
 obtain ⟨hg29,h⟩:=K3 h
 refine aD5 (l2:=[(⟨a1,a2,a3,[]⟩:Cl)]) hg29 (D5 _) ?_
 refine j4.seqQ fun _ A8 _ _=>?_
 refine kp [(4,_),(8,_),(11,_)] [(4,_),(8,_),(11,_),(69,_)] ?_
 refine god hn (by kernel_rfl) ?_
 refine C9 (fun _=>?_)
 refine A8 _ _ ?_
 refine j4.fzAll 69 rfl ?_
 refine got hn ?_
 obtain rfl:=Option.some.inj h
 exact ⟨[],_,fm⟩

/- class.Own -/
set_option maxRecDepth 100000 in
set_option maxHeartbeats 8000000 in
theorem bC9 (N:Nat) (a0:Wd) (r:Wd) (h:aC9 N a0=some r):Spec Try.prog 25 [] [.agg (eWd a0)] (.agg [.own 0,.sl 2 (List.map eOb r.heap),.int r.epoch]) [(0,.deep 4 67 [(3,(5,64))] (List.map U7 r.classes) [] 1),(1,.gone)] [0,1]:=by
 refine Spec.of G5 Try.func25 rfl Try.ntmps25 (by kernel_rfl) rfl rfl rfl fun Γ hn=>?_
 unfold aC9 at h
 refine j5 hn ?_
 refine j4.seqQ fun _ A0 _ _=>?_
 refine god hn (by kernel_rfl) ?_
 obtain ⟨r1,hr2,h⟩:=l5 h
 show p9 Try.prog _ _ _ _
 refine cA (((aL1 N a0.heap r1 hr2).sw 0 11).sw 1 711) ?_
 refine A0 _ _ ?_
 refine j4.seqQ fun _ A1 _ _=>?_
 refine j5 hn ?_
 refine C9 (fun hl3=>?_)
 refine j4.nilrowB 3 0 501 4 67 rfl rfl rfl rfl rfl rfl ?_
 refine j4.gh (Gh.toDeep 501 502 [(3,(5,64))] rfl rfl rfl rfl) (fun _=>?_)
 obtain ⟨o8,h9,h⟩:=l5 h
 refine jk (ι:={ s // o8=s }) hn (fun s=>[]) (fun s=>[(501,.deep 4 67 [(3,(5,64))] (List.map U7 s.1) [] 502)]) [(2,_),(3,_)] [(2,_),(3,_),(11,_),(502,_),(711,_)] (fun _ A2 _ _=>?_) ?_
 ·refine j4.blkQ fun _ _ E3 _ _=>?_
  refine lq (ι:={ q:((List Cl)×Nat×(List Cl)) // q.1=a0.classes.drop q.2.1∧L6 N q.1 q.2.1 q.2.2=some o8 }) hn (fun q=>[(18,.int (q.1.2.1:Int))]) (fun q=>[(501,.deep 4 67 [(3,(5,64))] (List.map U7 q.1.2.2) [] 502)]) (fun q=>q.1.1.length) [(2,_),(3,_),(16,_),(17,_)] [(2,_),(3,_),(11,_),(502,_),(711,_)] ⟨(a0.classes,0,([]:List Cl)),rfl,h9⟩ [] ?_
  rintro ⟨⟨rest_,k4,v5⟩,hd11,h9⟩ _ A4 X4 _
  replace hd11:rest_=a0.classes.drop k4:=hd11
  rcases rest_ with _|⟨x13,rest10⟩
  ·have hlt15:=I7 hd11
   replace h9:=(L6.eq_1 _ _ _).symm.trans h9
   refine j5 hn ?_
   refine j4.seqQ fun _ _ X5 _=>?_
   refine q8 hn ?_
   refine d9 hlt15 ?_
   refine I4 hn ?_
   refine X5 _ _ _ ?_
   refine X4 _ _ _ ?_
   refine E3 _ _ ?_
   refine A2 _ _ ?_
   exact jn ⟨_,sj h9⟩ []
  ·obtain ⟨hx14,hd2,hlt15⟩:=D9 hd11
   replace h9:=(L6.eq_2 _ _ _ _ _).symm.trans h9
   refine j5 hn ?_
   refine j4.seqQ fun _ A6 _ _=>?_
   refine q8 hn ?_
   refine j3 hlt15 ?_
   refine x9 hn ?_
   refine A6 _ _ ?_
   refine j4.seqQ fun _ A7 _ _=>?_
   refine j4.blkQ fun _ A8 _ _ _=>?_
   refine j5 hn ?_
   refine Z7 hx14 ?_
   refine j5 hn ?_
   refine j4.seqQ fun _ A9 _ _=>?_
   refine j5 hn ?_
   refine C9 (fun hl16=>?_)
   refine j4.nilrow 6 206 5 64 rfl rfl rfl ?_
   obtain ⟨o21,h22,h9⟩:=l5 h9
   refine jk (ι:={ s // o21=s }) hn (fun s=>[]) (fun s=>[(206,.row 5 (List.map D6 s.1) 64)]) [(2,_),(3,_),(5,_),(6,_),(16,_),(17,_),(18,_)] [(2,_),(3,_),(5,_),(11,_),(501,_),(502,_),(711,_)] (fun _ A10 _ _=>?_) ?_
   ·refine j4.blkQ fun _ _ E11 _ _=>?_
    refine lq (ι:={ q:((List Me)×Nat×(List Me)) // q.1=x13.methods.drop q.2.1∧L8 N q.1 q.2.1 q.2.2=some o21 }) hn (fun q=>[(25,.int (q.1.2.1:Int))]) (fun q=>[(206,.row 5 (List.map D6 q.1.2.2) 64)]) (fun q=>q.1.1.length) [(2,_),(3,_),(5,_),(6,_),(16,_),(17,_),(18,_),(23,_),(24,_)] [(2,_),(3,_),(5,_),(11,_),(501,_),(502,_),(711,_)] ⟨(x13.methods,0,([]:List Me)),rfl,h22⟩ [] ?_
    rintro ⟨⟨rest_,k17,v18⟩,hd24,h22⟩ _ A12 X12 _
    replace hd24:rest_=x13.methods.drop k17:=hd24
    rcases rest_ with _|⟨x26,rest23⟩
    ·have hlt28:=I7 hd24
     replace h22:=(L8.eq_1 _ _ _).symm.trans h22
     refine j5 hn ?_
     refine j4.seqQ fun _ _ X13 _=>?_
     refine q8 hn ?_
     refine d9 hlt28 ?_
     refine I4 hn ?_
     refine X13 _ _ _ ?_
     refine X12 _ _ _ ?_
     refine E11 _ _ ?_
     refine A10 _ _ ?_
     exact jn ⟨_,sj h22⟩ []
    ·obtain ⟨hx27,hd2,hlt28⟩:=D9 hd24
     replace h22:=(L8.eq_2 _ _ _ _ _).symm.trans h22
     refine j5 hn ?_
     refine j4.seqQ fun _ A14 _ _=>?_
     refine q8 hn ?_
     refine j3 hlt28 ?_
     refine x9 hn ?_
     refine A14 _ _ ?_
     refine j4.seqQ fun _ A15 _ _=>?_
     refine j4.blkQ fun _ A16 _ _ _=>?_
     refine j5 hn ?_
     refine Z7 hx27 ?_
     refine w9 hn ?_
     obtain ⟨r29,hr30,h22⟩:=l5 h22
     show p9 Try.prog _ _ _ _
     refine cA (V6 N x26 r29 hr30) ?_
     refine Exists.intro (List.map D6 [r29]) (And.intro (by repeat (first|exact trivial|exact rfl|(refine And.intro ?_ ?_))) ?_)
     obtain ⟨hg31,h22⟩:=K3 h22
     refine aD5 (l2:=[r29]) hg31 (D5 _) ?_
     refine A16 _ _ ?_
     refine A15 _ _ ?_
     refine kp [(2,_),(3,_),(5,_),(6,_),(16,_),(17,_),(18,_),(23,_),(24,_),(25,_)] [(2,_),(3,_),(5,_),(11,_),(33,_),(501,_),(502,_),(711,_)] ?_
     refine w9 hn ?_
     refine Or.inl (And.intro (X9 hx27 hl16) ?_)
     refine A12 _ _ ?_
     exact jn ⟨(rest23,k17+1,(v18++[r29])),hd2,h22⟩ [(206,33)] (by show rest23.length < rest23.length+1; omega)
   rintro ⟨v20,hv_⟩
   replace hv_:=hv_.symm
   subst hv_
   refine A9 _ _ ?_
   refine j5 hn ?_
   refine w9 hn ?_
   refine Or.inl ?_
   refine Exists.intro [(3,(5,64))] (Exists.intro (U7 (⟨x13.name,x13.super,x13.slots,v20⟩:Cl)) (Exists.intro [(206,.row 5 (List.map D6 v20) 64)] (And.intro rfl (And.intro rfl (And.intro rfl (And.intro (by decide) (And.intro (by decide) (And.intro rfl (And.intro rfl ?_)))))))))
   obtain ⟨hg32,h9⟩:=K3 h9
   refine b40 (l2:=[(⟨x13.name,x13.super,x13.slots,v20⟩:Cl)]) hg32 rfl rfl rfl rfl rfl (by decide) (by decide) ?_
   refine A8 _ _ ?_
   refine A7 _ _ ?_
   refine w9 hn ?_
   refine Or.inl (And.intro (X9 hx14 hl3) ?_)
   refine A4 _ _ ?_
   exact jn ⟨(rest10,k4+1,(v5++[(⟨x13.name,x13.super,x13.slots,v20⟩:Cl)])),hd2,h9⟩ [(501,41),(502,741)] (by show rest10.length < rest10.length+1; omega)
 rintro ⟨v7,hv_⟩
 replace hv_:=hv_.symm
 subst hv_
 refine A1 _ _ ?_
 refine j5 hn ?_
 refine j4.fzAllD 11 rfl ?_
 refine got hn ?_
 obtain rfl:=Option.some.inj h
 exact ⟨[(0,501),(1,502)],_,fm⟩

/- class.Install -/
set_option maxRecDepth 100000 in
set_option maxHeartbeats 8000000 in
theorem a02 (N:Nat) (a0:Wd) (a1:Int) (a2:Me) (r:(Wd×Int)) (h:Z9 N a0 a1 a2=some r):Spec Try.prog 34 [] [.agg (eWd a0),.int a1,.agg (D6 a2)] (.tup [.agg (eWd r.1),.int r.2]) [] []:=by
 refine Spec.of G5 Try.func34 rfl Try.ntmps34 (by kernel_rfl) rfl rfl rfl fun Γ hn=>?_
 unfold Z9 at h
 refine j5 hn ?_
 refine j4.seqQ fun _ A0 _ R0=>?_
 refine j4.seqQ fun _ A1 _ _=>?_
 obtain ⟨o3,h2,h⟩:=l5 h
 refine jk (ι:={ s // o3=s }) hn (fun s=>[(20,.bool s.1)]) (fun s=>[]) [(1,_),(3,_),(5,_),(6,_)] [(3,_),(5,_),(6,_)] (fun _ A2 _ _=>?_) ?_
 ·refine w9 hn ?_
  refine l8 h2 (fun hb4 h2=>?_) (fun hb4 h2=>?_)
  ·refine j3 hb4 ?_
   refine j3 hb4 ?_
   refine j3 hb4 ?_
   refine j3 hb4 ?_
   refine j3 hb4 ?_
   refine A2 _ _ ?_
   exact jn ⟨_,sj h2⟩ []
  refine d9 hb4 ?_
  refine d9 hb4 ?_
  refine d9 hb4 ?_
  refine C9 (fun _=>?_)
  refine d9 hb4 ?_
  refine d9 hb4 ?_
  refine A2 _ _ ?_
  exact jn ⟨_,sj h2⟩ []
 rintro ⟨v1,hv_⟩
 replace hv_:=hv_.symm
 subst hv_
 refine A1 _ _ ?_
 refine q8 hn ?_
 refine l8 h (fun hb6 h=>?_) (fun hb6 h=>?_)
 ·refine j5 hn ?_
  refine got hn ?_
  refine R0 _ _ ?_
  obtain rfl:=Option.some.inj h
  exact ⟨[],_,fm⟩
 refine x9 hn ?_
 refine A0 _ _ ?_
 refine j4.seqQ fun _ A3 _ _=>?_
 refine god hn (by kernel_rfl) ?_
 obtain ⟨x7,hx8,h⟩:=l5 h
 refine U9 hx8 ?_
 obtain ⟨r9,hr10,h⟩:=l5 h
 show p9 Try.prog _ _ _ _
 refine cA (H5 N x7.methods a2.name (fun x0_ x1_=>J7 N x0_ x1_) (fun x0_ x1_ y_ hy_=>aP4 N x0_ x1_ y_ hy_) r9 hr10) ?_
 refine A3 _ _ ?_
 refine j4.seqQ fun _ A4 _ R4=>?_
 refine j4.seqQ fun _ A5 _ _=>?_
 obtain ⟨o13,h12,h⟩:=l5 h
 refine jk (ι:={ s // o13=s }) hn (fun s=>[(45,.bool s.1)]) (fun s=>[]) [(1,_),(3,_),(5,_),(6,_),(8,_),(9,_)] [(3,_),(5,_),(6,_)] (fun _ A6 _ _=>?_) ?_
 ·refine kp [(1,_),(3,_),(5,_),(6,_),(8,_),(9,_)] [(3,_),(5,_),(6,_)] ?_
  refine w9 hn ?_
  refine l8 h12 (fun hb14 h12=>?_) (fun hb14 h12=>?_)
  ·refine j3 hb14 ?_
   refine j3 hb14 ?_
   refine j3 hb14 ?_
   obtain ⟨x15,hx16,h12⟩:=l5 h12
   refine U9 hx16 ?_
   refine j3 hb14 ?_
   refine j3 hb14 ?_
   refine j3 hb14 ?_
   refine C9 (fun _=>?_)
   refine j3 hb14 ?_
   refine j3 hb14 ?_
   refine A6 _ _ ?_
   exact jn ⟨_,sj h12⟩ []
  refine d9 hb14 ?_
  refine d9 hb14 ?_
  refine d9 hb14 ?_
  refine d9 hb14 ?_
  refine d9 hb14 ?_
  refine d9 hb14 ?_
  refine d9 hb14 ?_
  refine d9 hb14 ?_
  refine A6 _ _ ?_
  exact jn ⟨_,sj h12⟩ []
 rintro ⟨v11,hv_⟩
 replace hv_:=hv_.symm
 subst hv_
 refine A5 _ _ ?_
 refine q8 hn ?_
 refine l8 h (fun hb18 h=>?_) (fun hb18 h=>?_)
 ·refine j5 hn ?_
  refine got hn ?_
  refine R4 _ _ ?_
  obtain rfl:=Option.some.inj h
  exact ⟨[],_,fm⟩
 refine x9 hn ?_
 refine A4 _ _ ?_
 refine j5 hn ?_
 obtain ⟨r19,hr20,h⟩:=l5 h
 show p9 Try.prog _ _ _ _
 refine cA (((bC9 N a0 r19 hr20).sw 0 48).sw 1 748) ?_
 refine j5 hn ?_
 obtain ⟨x21,hx22,h⟩:=l5 h
 refine ixD hx22 rfl rfl ?_
 refine j4.seqQ fun _ A7 _ _=>?_
 refine j5 hn ?_
 obtain ⟨o25,h24,h⟩:=l5 h
 refine jk (ι:={ s // o25=s }) hn (fun s=>[]) (fun s=>[(48,.deep 4 67 [(3,(5,64))] (List.map U7 s.1) [] 501),(501,.gone)]) [(5,_),(6,_),(8,_),(10,_),(11,_)] [(5,_),(6,_),(10,_)] (fun _ A8 _ _=>?_) ?_
 ·refine q8 hn ?_
  refine l8 h24 (fun hb26 h24=>?_) (fun hb26 h24=>?_)
  ·refine j4.gh (Gh.detach 48 501 502 a1.toNat 3 rfl rfl (atD (K8 hx22).2) rfl rfl rfl rfl rfl rfl rfl rfl) (fun _=>?_)
   refine kp [(5,_),(6,_),(8,_),(10,_),(11,_)] [(5,_),(6,_),(10,_),(48,_),(501,_),(502,_)] ?_
   refine w9 hn ?_
   refine bY8 (K8 hx22).2 rfl rfl (by decide) rfl ?_
   refine Exists.intro (List.map D6 [(⟨ByteArray.empty,(0:Int),(0:Int),(0:Int),[]⟩:Me)]) (And.intro (by repeat (first|exact trivial|exact rfl|(refine And.intro ?_ ?_))) ?_)
   obtain ⟨r27,hr28,h24⟩:=l5 h24
   show p9 Try.prog _ _ _ _
   refine cA ((((aU7 N x21.methods r9.1 [(⟨ByteArray.empty,(0:Int),(0:Int),(0:Int),[]⟩:Me)] r27 hr28).sw 1000 501).sw 1032 62).sw 0 63) ?_
   refine b69 (K8 hx22).2 rfl rfl (by decide) ?_
   refine A8 _ _ ?_
   refine O8.gh (Gh.attach (l':=List.map U7 (r19.classes.set a1.toNat (⟨x21.name,x21.super,x21.slots,r27⟩:Cl))) 48 63 503 a1.toNat 3 rfl rfl rfl (atD (K8 hx22).2) rfl rfl (b37 rfl) rfl rfl rfl rfl rfl rfl) (fun _=>?_)
   exact jn ⟨_,sj h24⟩ [(501,503)]
  refine x9 hn ?_
  refine A8 _ _ ?_
  exact jn ⟨_,sj h24⟩ [(501,748)]
 rintro ⟨v23,hv_⟩
 replace hv_:=hv_.symm
 subst hv_
 refine A7 _ _ ?_
 refine j4.seqQ fun _ A9 _ _=>?_
 obtain ⟨x29,hx30,h⟩:=l5 h
 refine j4.gh (Gh.detach 48 504 505 a1.toNat 3 rfl rfl (atD hx30) rfl rfl rfl rfl rfl rfl rfl rfl) (fun _=>?_)
 refine kp [(5,_),(6,_),(8,_),(10,_),(11,_)] [(5,_),(6,_),(10,_),(48,_),(504,_),(505,_)] ?_
 refine god hn (by kernel_rfl) ?_
 refine bY8 hx30 rfl rfl (by decide) rfl ?_
 obtain ⟨r31,hr32,h⟩:=l5 h
 show p9 Try.prog _ _ _ _
 refine cA (V6 N a2 r31 hr32) ?_
 obtain ⟨x33,hx34,h⟩:=l5 h
 refine aX3 hx34 ?_
 refine ldM (K8 hx34).2 ?_
 refine Exists.intro (List.map D6 (x29.methods.set r9.1.toNat r31)) (And.intro (bJ6 (K8 hx34).2 (by repeat (first|exact trivial|exact rfl|(refine And.intro ?_ ?_)))) ?_)
 refine A9 _ _ ?_
 refine j4.gh (Gh.attach (l':=List.map U7 (v23.set a1.toNat (⟨x29.name,x29.super,x29.slots,(x29.methods.set r9.1.toNat r31)⟩:Cl))) 48 504 506 a1.toNat 3 rfl rfl rfl (atD hx30) rfl rfl (b37 rfl) rfl rfl rfl rfl rfl rfl) (fun _=>?_)
 refine kp [(6,_),(10,_)] [(6,_),(10,_),(48,_),(506,_)] ?_
 refine j5 hn ?_
 refine Or.inr ?_
 refine j5 hn ?_
 refine j4.fzAllD 48 rfl ?_
 refine got hn ?_
 obtain rfl:=Option.some.inj h
 exact ⟨[],_,fm⟩

/- qclaw2.ClassTells -/
set_option maxRecDepth 100000 in
set_option maxHeartbeats 8000000 in
theorem aS3 (N:Nat) (a0:Wd) (a1:Int) (a2:ByteArray) (a3:Int) (a4:Me) (r:Bool) (h:Y3 N a0 a1 a2 a3 a4=some r):Spec Try.prog 7 [] [.agg (eWd a0),.int a1,.str a2,.int a3,.agg (D6 a4)] (.bool r) [] []:=by
 refine Spec.of G5 Try.func7 rfl Try.ntmps7 (by kernel_rfl) rfl rfl rfl fun Γ hn=>?_
 unfold Y3 at h
 refine j5 hn ?_
 refine j4.seqQ fun _ A0 _ R0=>?_
 refine j5 hn ?_
 refine C9 (fun hl1=>?_)
 obtain ⟨o3,h4,h⟩:=l5 h
 refine jk (ι:={ s // o3=U2.next s }) hn (fun s=>[]) (fun s=>[]) [(1,_),(2,_),(3,_),(5,_),(9,_)] [(5,_),(9,_)] (fun _ A1 _ R1=>?_) ?_
 ·refine j4.blkQ fun _ _ E2 _ R2=>?_
  refine lq (ι:={ q:((List Cl)×Nat) // q.1=a0.classes.drop q.2∧H8 N q.1 q.2=some o3 }) hn (fun q=>[(27,.int (q.1.2:Int))]) (fun q=>[]) (fun q=>q.1.1.length) [(1,_),(2,_),(3,_),(5,_),(9,_),(25,_),(26,_)] [(5,_),(9,_)] ⟨(a0.classes,0),rfl,h4⟩ [] ?_
  rintro ⟨⟨rest_,k2⟩,hd6,h4⟩ _ A3 X3 R3
  replace hd6:rest_=a0.classes.drop k2:=hd6
  rcases rest_ with _|⟨x8,rest5⟩
  ·have hlt10:=I7 hd6
   replace h4:=(H8.eq_1 _ _).symm.trans h4
   refine j5 hn ?_
   refine j4.seqQ fun _ _ X4 _=>?_
   refine q8 hn ?_
   refine d9 hlt10 ?_
   refine I4 hn ?_
   refine X4 _ _ _ ?_
   refine X3 _ _ _ ?_
   refine E2 _ _ ?_
   refine A1 _ _ ?_
   exact jn ⟨_,sj h4⟩ []
  ·obtain ⟨hx9,hd2,hlt10⟩:=D9 hd6
   replace h4:=(H8.eq_2 _ _ _ _).symm.trans h4
   refine j5 hn ?_
   refine j4.seqQ fun _ A5 _ _=>?_
   refine q8 hn ?_
   refine j3 hlt10 ?_
   refine x9 hn ?_
   refine A5 _ _ ?_
   refine j4.seqQ fun _ A6 _ R6=>?_
   refine j4.blkQ fun _ A7 _ _ R7=>?_
   refine j5 hn ?_
   refine Z7 hx9 ?_
   refine j4.seqQ fun _ A8 _ _=>?_
   obtain ⟨o13,h12,h4⟩:=l5 h4
   refine jk (ι:={ s // o13=s }) hn (fun s=>[(38,.bool s.1)]) (fun s=>[]) [(1,_),(2,_),(3,_),(5,_),(9,_),(25,_),(26,_),(27,_)] [(5,_),(9,_)] (fun _ A9 _ _=>?_) ?_
   ·refine w9 hn ?_
    refine l8 h12 (fun hb14 h12=>?_) (fun hb14 h12=>?_)
    ·refine j3 hb14 ?_
     refine j3 hb14 ?_
     refine j3 hb14 ?_
     refine A9 _ _ ?_
     exact jn ⟨_,sj h12⟩ []
    refine d9 hb14 ?_
    refine d9 hb14 ?_
    refine d9 hb14 ?_
    refine A9 _ _ ?_
    exact jn ⟨_,sj h12⟩ []
   rintro ⟨v11,hv_⟩
   replace hv_:=hv_.symm
   subst hv_
   refine A8 _ _ ?_
   refine q8 hn ?_
   refine l8 h4 (fun hb15 h4=>?_) (fun hb15 h4=>?_)
   ·refine j5 hn ?_
    refine got hn ?_
    refine R7 _ _ ?_
    refine R6 _ _ ?_
    refine R3 _ _ ?_
    refine R2 _ _ ?_
    refine R1 _ _ ?_
    refine R0 _ _ ?_
    obtain rfl:=Option.some.inj h4
    obtain rfl:=Option.some.inj h
    exact ⟨[],_,fm⟩
   refine x9 hn ?_
   refine A7 _ _ ?_
   refine A6 _ _ ?_
   refine w9 hn ?_
   refine Or.inl (And.intro (X9 hx9 hl1) ?_)
   refine A3 _ _ ?_
   exact jn ⟨(rest5,k2+1),hd2,h4⟩ [] (by show rest5.length < rest5.length+1; omega)
 rintro ⟨⟨⟩,rfl⟩
 refine A0 _ _ ?_
 refine j4.seqQ fun _ A10 _ R10=>?_
 refine j5 hn ?_
 obtain ⟨r16,hr17,h⟩:=l5 h
 show p9 Try.prog _ _ _ _
 refine cA (bA2 N a0 r16 hr17) ?_
 refine q8 hn ?_
 refine l8 h (fun hb18 h=>?_) (fun hb18 h=>?_)
 ·refine j5 hn ?_
  refine got hn ?_
  refine R10 _ _ ?_
  obtain rfl:=Option.some.inj h
  exact ⟨[],_,fm⟩
 refine x9 hn ?_
 refine A10 _ _ ?_
 refine j4.seqQ fun _ A11 _ R11=>?_
 refine j4.seqQ fun _ A12 _ _=>?_
 obtain ⟨o21,h20,h⟩:=l5 h
 refine jk (ι:={ s // o21=s }) hn (fun s=>[(69,.bool s.1)]) (fun s=>[]) [(1,_),(2,_),(3,_),(5,_),(9,_)] [(5,_),(9,_)] (fun _ A13 _ _=>?_) ?_
 ·refine kp [(1,_),(2,_),(3,_),(5,_),(9,_)] [(5,_),(9,_)] ?_
  refine god hn (by kernel_rfl) ?_
  obtain ⟨r22,hr23,h20⟩:=l5 h20
  show p9 Try.prog _ _ _ _
  refine cA (bK1 N  r22 hr23) ?_
  obtain ⟨r24,hr25,h20⟩:=l5 h20
  show p9 Try.prog _ _ _ _
  refine cA (bG2 N  r24 hr25) ?_
  obtain ⟨r26,hr27,h20⟩:=l5 h20
  show p9 Try.prog _ _ _ _
  refine cA (U6 N r22 r24 r26 hr27) ?_
  refine l8 h20 (fun hb28 h20=>?_) (fun hb28 h20=>?_)
  ·refine j3 hb28 ?_
   refine j3 hb28 ?_
   refine j3 hb28 ?_
   refine j3 hb28 ?_
   refine j3 hb28 ?_
   refine A13 _ _ ?_
   exact jn ⟨_,sj h20⟩ []
  refine d9 hb28 ?_
  obtain ⟨r29,hr30,h20⟩:=l5 h20
  show p9 Try.prog _ _ _ _
  refine cA (bL1 N a0 r29 hr30) ?_
  refine d9 hb28 ?_
  refine d9 hb28 ?_
  obtain ⟨r31,hr32,h20⟩:=l5 h20
  show p9 Try.prog _ _ _ _
  refine cD (U6 N (⟨r29.classes,r29.heap,r29.epoch⟩:Wd) a0 r31 hr32) ?_
  refine d9 hb28 ?_
  refine d9 hb28 ?_
  refine l8 h20 (fun hb33 h20=>?_) (fun hb33 h20=>?_)
  ·refine j3 hb33 ?_
   refine j3 hb33 ?_
   refine j3 hb33 ?_
   refine j3 hb33 ?_
   refine j3 hb33 ?_
   refine A13 _ _ ?_
   exact jn ⟨_,sj h20⟩ []
  refine d9 hb33 ?_
  obtain ⟨r34,hr35,h20⟩:=l5 h20
  show p9 Try.prog _ _ _ _
  refine cA (aU0 N a2 r34 hr35) ?_
  refine d9 hb33 ?_
  refine d9 hb33 ?_
  obtain ⟨r36,hr37,h20⟩:=l5 h20
  show p9 Try.prog _ _ _ _
  refine cA (aQ1 N a2 r36 hr37) ?_
  refine d9 hb33 ?_
  refine d9 hb33 ?_
  refine l8 h20 (fun hb38 h20=>?_) (fun hb38 h20=>?_)
  ·refine j3 hb38 ?_
   refine j3 hb38 ?_
   refine j3 hb38 ?_
   refine j3 hb38 ?_
   refine j3 hb38 ?_
   refine j3 hb38 ?_
   refine j3 hb38 ?_
   refine A13 _ _ ?_
   exact jn ⟨_,sj h20⟩ []
  refine d9 hb38 ?_
  refine d9 hb38 ?_
  obtain ⟨r39,hr40,h20⟩:=l5 h20
  show p9 Try.prog _ _ _ _
  refine cA (aP5 N a0 a1 r39 hr40) ?_
  refine d9 hb38 ?_
  refine d9 hb38 ?_
  refine d9 hb38 ?_
  obtain ⟨r41,hr42,h20⟩:=l5 h20
  show p9 Try.prog _ _ _ _
  refine cA (aN3 N a0 a1 r41 hr42) ?_
  refine d9 hb38 ?_
  refine d9 hb38 ?_
  refine A13 _ _ ?_
  exact jn ⟨_,sj h20⟩ []
 rintro ⟨v19,hv_⟩
 replace hv_:=hv_.symm
 subst hv_
 refine A12 _ _ ?_
 refine q8 hn ?_
 refine l8 h (fun hb43 h=>?_) (fun hb43 h=>?_)
 ·refine j5 hn ?_
  refine got hn ?_
  refine R11 _ _ ?_
  obtain rfl:=Option.some.inj h
  exact ⟨[],_,fm⟩
 refine x9 hn ?_
 refine A11 _ _ ?_
 refine j5 hn ?_
 obtain ⟨r44,hr45,h⟩:=l5 h
 show p9 Try.prog _ _ _ _
 refine cA (bF9 N a0 a1 a2 r44 hr45) ?_
 refine j5 hn ?_
 obtain ⟨r46,hr47,h⟩:=l5 h
 show p9 Try.prog _ _ _ _
 refine cA (bB2 N a0 a1 a2 r46 hr47) ?_
 refine j4.seqQ fun _ A14 _ R14=>?_
 refine j4.seqQ fun _ A15 _ _=>?_
 obtain ⟨o50,h49,h⟩:=l5 h
 refine jk (ι:={ s // o50=s }) hn (fun s=>[(91,.bool s.1)]) (fun s=>[]) [(1,_),(2,_),(3,_),(5,_),(9,_)] [(5,_),(9,_)] (fun _ A16 _ _=>?_) ?_
 ·refine kp [(1,_),(2,_),(3,_),(5,_),(9,_),(13,_),(14,_),(15,_),(16,_)] [(5,_),(9,_)] ?_
  refine w9 hn ?_
  refine l8 h49 (fun hb51 h49=>?_) (fun hb51 h49=>?_)
  ·refine j3 hb51 ?_
   refine j3 hb51 ?_
   refine j3 hb51 ?_
   refine A16 _ _ ?_
   exact jn ⟨_,sj h49⟩ []
  refine d9 hb51 ?_
  refine d9 hb51 ?_
  refine d9 hb51 ?_
  refine A16 _ _ ?_
  exact jn ⟨_,sj h49⟩ []
 rintro ⟨v48,hv_⟩
 replace hv_:=hv_.symm
 subst hv_
 refine A15 _ _ ?_
 refine q8 hn ?_
 refine l8 h (fun hb52 h=>?_) (fun hb52 h=>?_)
 ·refine j5 hn ?_
  refine got hn ?_
  refine R14 _ _ ?_
  obtain rfl:=Option.some.inj h
  exact ⟨[],_,fm⟩
 refine x9 hn ?_
 refine A14 _ _ ?_
 refine j5 hn ?_
 obtain ⟨r53,hr54,h⟩:=l5 h
 show p9 Try.prog _ _ _ _
 refine cA (bG0 N a0 a2 a1 a3 r53 hr54) ?_
 refine kp [(1,_),(2,_),(3,_),(5,_),(9,_),(17,_),(18,_),(19,_)] [(5,_),(9,_),(17,_)] ?_
 refine j5 hn ?_
 obtain ⟨r55,hr56,h⟩:=l5 h
 show p9 Try.prog _ _ _ _
 refine cA (bE2 N a0 a2 a1 a3 r55 hr56) ?_
 refine j4.seqQ fun _ A17 _ R17=>?_
 refine j4.seqQ fun _ A18 _ _=>?_
 obtain ⟨o59,h58,h⟩:=l5 h
 refine jk (ι:={ s // o59=s }) hn (fun s=>[(123,.bool s.1)]) (fun s=>[]) [(1,_),(5,_),(9,_),(17,_),(20,_)] [(5,_),(9,_),(17,_),(20,_)] (fun _ A19 _ _=>?_) ?_
 ·refine kp [(1,_),(5,_),(9,_),(17,_),(18,_),(19,_),(20,_),(21,_),(22,_)] [(5,_),(9,_),(17,_),(20,_)] ?_
  refine w9 hn ?_
  refine l8 h58 (fun hb60 h58=>?_) (fun hb60 h58=>?_)
  ·refine j3 hb60 ?_
   refine j3 hb60 ?_
   refine j3 hb60 ?_
   refine A19 _ _ ?_
   exact jn ⟨_,sj h58⟩ []
  refine d9 hb60 ?_
  refine d9 hb60 ?_
  refine d9 hb60 ?_
  refine l8 h58 (fun hb61 h58=>?_) (fun hb61 h58=>?_)
  ·refine j3 hb61 ?_
   refine j3 hb61 ?_
   refine j3 hb61 ?_
   refine j3 hb61 ?_
   refine A19 _ _ ?_
   exact jn ⟨_,sj h58⟩ []
  refine d9 hb61 ?_
  refine d9 hb61 ?_
  obtain ⟨r62,hr63,h58⟩:=l5 h58
  show p9 Try.prog _ _ _ _
  refine cA (U6 N r53.1 r55.1 r62 hr63) ?_
  refine d9 hb61 ?_
  refine d9 hb61 ?_
  refine A19 _ _ ?_
  exact jn ⟨_,sj h58⟩ []
 rintro ⟨v57,hv_⟩
 replace hv_:=hv_.symm
 subst hv_
 refine A18 _ _ ?_
 refine q8 hn ?_
 refine l8 h (fun hb64 h=>?_) (fun hb64 h=>?_)
 ·refine j5 hn ?_
  refine got hn ?_
  refine R17 _ _ ?_
  obtain rfl:=Option.some.inj h
  exact ⟨[],_,fm⟩
 refine x9 hn ?_
 refine A17 _ _ ?_
 refine j5 hn ?_
 obtain ⟨r65,hr66,h⟩:=l5 h
 show p9 Try.prog _ _ _ _
 refine cA (a02 N a0 a1 a4 r65 hr66) ?_
 refine j5 hn ?_
 obtain ⟨r67,hr68,h⟩:=l5 h
 show p9 Try.prog _ _ _ _
 refine cA (aY3 N a0 a1 a4 r67 hr68) ?_
 refine kp [(9,_),(17,_),(19,_),(20,_),(22,_)] [(9,_),(17,_),(20,_)] ?_
 refine j5 hn ?_
 obtain ⟨r69,hr70,h⟩:=l5 h
 show p9 Try.prog _ _ _ _
 refine cA (V6 N a4 r69 hr70) ?_
 refine j4.seqQ fun _ A20 _ _=>?_
 obtain ⟨o73,h72,h⟩:=l5 h
 refine jk (ι:={ s // o73=s }) hn (fun s=>[(10,.bool s.1)]) (fun s=>[]) [] [] (fun _ A21 _ _=>?_) ?_
 ·refine w9 hn ?_
  refine l8 h72 (fun hb74 h72=>?_) (fun hb74 h72=>?_)
  ·refine j3 hb74 ?_
   refine j3 hb74 ?_
   obtain ⟨r75,hr76,h72⟩:=l5 h72
   show p9 Try.prog _ _ _ _
   refine cA (U6 N r65.1 r67.1 r75 hr76) ?_
   refine j3 hb74 ?_
   refine l8 h72 (fun hb77 h72=>?_) (fun hb77 h72=>?_)
   ·refine j3 hb77 ?_
    refine j3 hb77 ?_
    refine j3 hb77 ?_
    refine j3 hb77 ?_
    refine j3 hb77 ?_
    refine l8 h72 (fun hb78 h72=>?_) (fun hb78 h72=>?_)
    ·refine j3 hb78 ?_
     refine j3 hb78 ?_
     refine j3 hb78 ?_
     refine j3 hb78 ?_
     refine j3 hb78 ?_
     refine l8 h72 (fun hb79 h72=>?_) (fun hb79 h72=>?_)
     ·refine j3 hb79 ?_
      refine j3 hb79 ?_
      refine j3 hb79 ?_
      refine j3 hb79 ?_
      refine j3 hb79 ?_
      refine l8 h72 (fun hb80 h72=>?_) (fun hb80 h72=>?_)
      ·refine j3 hb80 ?_
       refine j3 hb80 ?_
       refine j3 hb80 ?_
       refine j3 hb80 ?_
       refine j3 hb80 ?_
       refine l8 h72 (fun hb81 h72=>?_) (fun hb81 h72=>?_)
       ·refine j3 hb81 ?_
        refine j3 hb81 ?_
        refine j3 hb81 ?_
        refine j3 hb81 ?_
        obtain ⟨r82,hr83,h72⟩:=l5 h72
        show p9 Try.prog _ _ _ _
        refine cA (aI1 N r69.code a4.code r82 hr83) ?_
        refine j3 hb81 ?_
        refine A21 _ _ ?_
        exact jn ⟨_,sj h72⟩ []
       refine d9 hb81 ?_
       refine d9 hb81 ?_
       refine d9 hb81 ?_
       refine d9 hb81 ?_
       refine d9 hb81 ?_
       refine A21 _ _ ?_
       exact jn ⟨_,sj h72⟩ []
      refine d9 hb80 ?_
      refine d9 hb80 ?_
      refine d9 hb80 ?_
      refine d9 hb80 ?_
      refine d9 hb80 ?_
      refine A21 _ _ ?_
      exact jn ⟨_,sj h72⟩ []
     refine d9 hb79 ?_
     refine d9 hb79 ?_
     refine d9 hb79 ?_
     refine d9 hb79 ?_
     refine d9 hb79 ?_
     refine A21 _ _ ?_
     exact jn ⟨_,sj h72⟩ []
    refine d9 hb78 ?_
    refine d9 hb78 ?_
    refine d9 hb78 ?_
    refine d9 hb78 ?_
    refine d9 hb78 ?_
    refine A21 _ _ ?_
    exact jn ⟨_,sj h72⟩ []
   refine d9 hb77 ?_
   refine d9 hb77 ?_
   refine d9 hb77 ?_
   refine d9 hb77 ?_
   refine d9 hb77 ?_
   refine A21 _ _ ?_
   exact jn ⟨_,sj h72⟩ []
  refine d9 hb74 ?_
  refine d9 hb74 ?_
  refine d9 hb74 ?_
  refine A21 _ _ ?_
  exact jn ⟨_,sj h72⟩ []
 rintro ⟨v71,hv_⟩
 replace hv_:=hv_.symm
 subst hv_
 refine A20 _ _ ?_
 refine got hn ?_
 obtain rfl:=Option.some.inj h
 exact ⟨[],_,fm⟩
end Go.Proofs.Ytahmeibkdhbngaa
