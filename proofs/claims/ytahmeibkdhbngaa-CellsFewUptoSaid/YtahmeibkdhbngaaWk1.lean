/- Walks after the mirrors. Printed by mir.py. -/
import Derived.Test.YtahmeibkdhbngaaMir
import Derived.Test.YtahmeibkdhbngaaYnew
import Derived.Test.YtahmeibkdhbngaaYrg
namespace Go.Proofs.Ytahmeibkdhbngaa
open Go.RowKit
set_option linter.unusedVariables false
/- slices.Clone[[]api.Line,api.Line] -/
set_option maxRecDepth 100000 in
theorem aB9 (N:Nat) (l:List Ln) (r:List Ln) (h:U2 N l=some r):Spec Try.prog 72 [] [.sl 2 (List.map K4 l)] (.own 0) [(0,.row 2 (List.map K4 r) 91)] [0]:=by
  obtain ⟨hf,h⟩:=aH4 h
  obtain rfl:=Option.some.inj h
  refine Spec.of J2 Try.func72 rfl Try.ntmps72 (by kernel_rfl) rfl rfl rfl fun Γ hn=>?_
  refine j5 hn ?_
  refine j3.seq (j3.seq (j3.ops (goo hn 1 ?_)))
  refine OOk.gh (Gh.nil 3 rfl) ?_
  rintro ⟨b,hb⟩
  refine goo hn 1 (OOk.done ?_)
  (repeat (first|refine j5 hn ?_|refine G5 hn ?_|refine K6 hn ?_|refine C8 hn ?_|refine I6 hn ?_|refine D7 hn ?_|refine got hn ?_))
  refine aR6 (fun hb1=>?_) (fun hb1=>?_)
  · have e:l=[]:=by simpa using hb hb1
    subst e
    refine j5 hn ?_
    refine j3.nilrow 2 5 2 91 rfl rfl rfl ?_
    (repeat (first|refine j5 hn ?_|refine G5 hn ?_|refine K6 hn ?_|refine C8 hn ?_|refine I6 hn ?_|refine D7 hn ?_|refine got hn ?_))
    exact ⟨[(0,5)],_,rfl,rfl,⟨rfl,trivial⟩,rfl,rfl,rfl,rfl,rfl⟩
  · (repeat (first|refine j5 hn ?_|refine G5 hn ?_|refine K6 hn ?_|refine C8 hn ?_|refine I6 hn ?_|refine D7 hn ?_|refine got hn ?_))
    refine Exists.intro [] (And.intro trivial ?_)
    refine And.intro (by have:=Nat.le_of_ble_eq_true hf; simpa using this) ?_
    refine Exists.intro (List.map K4 l) (And.intro (J8 _) ?_)
    (repeat (first|refine j5 hn ?_|refine G5 hn ?_|refine K6 hn ?_|refine C8 hn ?_|refine I6 hn ?_|refine D7 hn ?_|refine got hn ?_))
    exact ⟨[(0,7)],_,rfl,rfl,⟨rfl,trivial⟩,rfl,rfl,rfl,rfl,rfl⟩

/- cells.Own -/
set_option maxRecDepth 100000 in
set_option maxHeartbeats 8000000 in
theorem aD1 (N:Nat) (a0:(List Ce)) (r:(List Ce)) (h:aC0 N a0=some r):Spec Try.prog 40 [] [.sl 6 (List.map X0 a0)] (.own 0) [(0,.row 6 (List.map X0 r) 31)] [0]:=by
 refine Spec.of J2 Try.func40 rfl Try.ntmps40 (by kernel_rfl) rfl rfl rfl fun Γ hn=>?_
 unfold aC0 at h
 refine j5 hn ?_
 refine j5 hn ?_
 refine j3.seqQ fun _ A0 _ _=>?_
 refine j5 hn ?_
 refine V9 (fun hl1=>?_)
 refine j3.nilrow 3 203 6 31 rfl rfl rfl ?_
 obtain ⟨o6,h7,h⟩:=w9 h
 refine jk (ι:={ s // o6=s }) hn (fun s=>[]) (fun s=>[(203,.row 6 (List.map X0 s.1) 31)]) [(3,_)] [] (fun _ A1 _ _=>?_) ?_
 ·refine j3.blkQ fun _ _ E2 _ _=>?_
  refine lq (ι:={ q:((List Ce)×Nat×(List Ce)) // q.1=a0.drop q.2.1∧V3 N q.1 q.2.1 q.2.2=some o6 }) hn (fun q=>[(8,.int (q.1.2.1:Int))]) (fun q=>[(203,.row 6 (List.map X0 q.1.2.2) 31)]) (fun q=>q.1.1.length) [(3,_),(6,_),(7,_)] [] ⟨(a0,0,([]:List Ce)),rfl,h7⟩ [] ?_
  rintro ⟨⟨rest_,k2,v3⟩,hd9,h7⟩ _ A3 X3 _
  replace hd9:rest_=a0.drop k2:=hd9
  rcases rest_ with _|⟨x11,rest8⟩
  ·have hlt13:=aI5 hd9
   replace h7:=(V3.eq_1 _ _ _).symm.trans h7
   refine j5 hn ?_
   refine j3.seqQ fun _ _ X4 _=>?_
   refine C8 hn ?_
   refine l5 hlt13 ?_
   refine I6 hn ?_
   refine X4 _ _ _ ?_
   refine X3 _ _ _ ?_
   refine E2 _ _ ?_
   refine A1 _ _ ?_
   exact jn ⟨_,sj h7⟩ []
  ·obtain ⟨hx12,hd2,hlt13⟩:=aE2 hd9
   replace h7:=(V3.eq_2 _ _ _ _ _).symm.trans h7
   refine j5 hn ?_
   refine j3.seqQ fun _ A5 _ _=>?_
   refine C8 hn ?_
   refine l7 hlt13 ?_
   refine D7 hn ?_
   refine A5 _ _ ?_
   refine j3.seqQ fun _ A6 _ _=>?_
   refine j3.blkQ fun _ A7 _ _ _=>?_
   refine j5 hn ?_
   refine aZ7 hx12 ?_
   refine j5 hn ?_
   obtain ⟨r14,hr15,h7⟩:=w9 h7
   show p9 Try.prog _ _ _ _
   refine cA ((aB9 N x11.lines r14 hr15).sw 0 14) ?_
   refine G5 hn ?_
   refine Exists.intro (List.map X0 [(⟨x11.site,x11.epoch,x11.many,r14⟩:Ce)]) (And.intro (by repeat (first|exact trivial|exact rfl|(refine And.intro ?_ ?_))) ?_)
   obtain ⟨hg16,h7⟩:=aH4 h7
   refine bR7 (l2:=[(⟨x11.site,x11.epoch,x11.many,r14⟩:Ce)]) hg16 (J8 _) ?_
   refine A7 _ _ ?_
   refine A6 _ _ ?_
   refine G5 hn ?_
   refine Or.inl (And.intro (aZ9 hx12 hl1) ?_)
   refine A3 _ _ ?_
   exact jn ⟨(rest8,k2+1,(v3++[(⟨x11.site,x11.epoch,x11.many,r14⟩:Ce)])),hd2,h7⟩ [(203,19)] (by show rest8.length < rest8.length+1; omega)
 rintro ⟨v5,hv_⟩
 replace hv_:=hv_.symm
 subst hv_
 refine A0 _ _ ?_
 refine j5 hn ?_
 refine got hn ?_
 obtain rfl:=Option.some.inj h
 exact ⟨[(0,203)],_,fm⟩

/- slices.IndexFunc[[]api.Cell,api.Cell] -/
set_option maxRecDepth 100000 in
set_option maxHeartbeats 8000000 in
theorem Q7 (N:Nat) (a0:(List Ce)) (g1:Ce→Option Bool) {K1:Nat} {c1_0:List AV} (hg1:∀x0_ y_,g1 x0_=some y_→Spec Try.prog K1 [] [.agg (X0 x0_),.fp c1_0] (.bool y_) [] []) (r:Int) (h:y7 N a0 g1=some r):Spec Try.prog 73 [] [.sl 6 (List.map X0 a0),.fn K1 [.fp c1_0]] (.int r) [] []:=by
 refine Spec.of J2 Try.func73 rfl Try.ntmps73 (by kernel_rfl) rfl rfl rfl fun Γ hn=>?_
 unfold y7 at h
 refine j5 hn ?_
 refine j3.seqQ fun _ A0 _ R0=>?_
 refine j5 hn ?_
 refine V9 (fun hl1=>?_)
 obtain ⟨o3,h4,h⟩:=w9 h
 refine jk (ι:={ s // o3=Ctl.next s }) hn (fun s=>[]) (fun s=>[]) [] [] (fun _ A1 _ R1=>?_) ?_
 ·refine j3.blkQ fun _ _ E2 _ R2=>?_
  refine lq (ι:={ q:((List Ce)×Nat) // q.1=a0.drop q.2∧j6 N g1 q.1 q.2=some o3 }) hn (fun q=>[(8,.int (q.1.2:Int))]) (fun q=>[]) (fun q=>q.1.1.length) [(0,_),(1,_),(7,_)] [] ⟨(a0,0),rfl,h4⟩ [] ?_
  rintro ⟨⟨rest_,k2⟩,hd6,h4⟩ _ A3 X3 R3
  replace hd6:rest_=a0.drop k2:=hd6
  rcases rest_ with _|⟨x8,rest5⟩
  ·have hlt10:=aI5 hd6
   replace h4:=(j6.eq_1 _ _ _).symm.trans h4
   refine j5 hn ?_
   refine j3.seqQ fun _ _ X4 _=>?_
   refine C8 hn ?_
   refine l5 hlt10 ?_
   refine I6 hn ?_
   refine X4 _ _ _ ?_
   refine X3 _ _ _ ?_
   refine E2 _ _ ?_
   refine A1 _ _ ?_
   exact jn ⟨_,sj h4⟩ []
  ·obtain ⟨hx9,hd2,hlt10⟩:=aE2 hd6
   replace h4:=(j6.eq_2 _ _ _ _ _).symm.trans h4
   refine j5 hn ?_
   refine j3.seqQ fun _ A5 _ _=>?_
   refine C8 hn ?_
   refine l7 hlt10 ?_
   refine D7 hn ?_
   refine A5 _ _ ?_
   refine j3.seqQ fun _ A6 _ R6=>?_
   refine j3.blkQ fun _ A7 _ _ R7=>?_
   refine j5 hn ?_
   refine j5 hn ?_
   refine aZ7 hx9 ?_
   obtain ⟨r11,hr12,h4⟩:=w9 h4
   show p9 Try.prog _ _ _ _
   refine cA (hg1 _ _ hr12) ?_
   refine C8 hn ?_
   refine G8 h4 (fun hb13 h4=>?_) (fun hb13 h4=>?_)
   ·refine j5 hn ?_
    refine got hn ?_
    refine R7 _ _ ?_
    refine R6 _ _ ?_
    refine R3 _ _ ?_
    refine R2 _ _ ?_
    refine R1 _ _ ?_
    refine R0 _ _ ?_
    obtain rfl:=Option.some.inj h4
    obtain rfl:=Option.some.inj h
    exact ⟨[],_,fm⟩
   refine D7 hn ?_
   refine A7 _ _ ?_
   refine A6 _ _ ?_
   refine G5 hn ?_
   refine Or.inl (And.intro (aZ9 hx9 hl1) ?_)
   refine A3 _ _ ?_
   exact jn ⟨(rest5,k2+1),hd2,h4⟩ [] (by show rest5.length < rest5.length+1; omega)
 rintro ⟨⟨⟩,rfl⟩
 refine A0 _ _ ?_
 refine j5 hn ?_
 refine got hn ?_
 obtain rfl:=Option.some.inj h
 exact ⟨[],_,fm⟩

/- cells.where$1 -/
set_option maxRecDepth 100000 in
set_option maxHeartbeats 8000000 in
theorem aO8 (N:Nat) (a0:Ce) (b0:St) (r:Bool) (h:J7 N a0 b0=some r):Spec Try.prog 74 [] [.agg (X0 a0),.fp (eSt b0)] (.bool r) [] []:=by
 refine Spec.of J2 Try.func74 rfl Try.ntmps74 (by kernel_rfl) rfl rfl rfl fun Γ hn=>?_
 unfold J7 at h
 refine j5 hn ?_
 refine j5 hn ?_
 refine got hn ?_
 obtain rfl:=Option.some.inj h
 exact ⟨[],_,fm⟩

/- cells.where -/
set_option maxRecDepth 100000 in
set_option maxHeartbeats 8000000 in
theorem aJ1 (N:Nat) (a0:(List Ce)) (a1:St) (r:Int) (h:O7 N a0 a1=some r):Spec Try.prog 41 [] [.sl 6 (List.map X0 a0),.agg (eSt a1)] (.int r) [] []:=by
 refine Spec.of J2 Try.func41 rfl Try.ntmps41 (by kernel_rfl) rfl rfl rfl fun Γ hn=>?_
 unfold O7 at h
 refine j5 hn ?_
 refine j3.gh (Gh.fzBox 3 3 rfl rfl rfl) (fun _=>?_)
 refine kp [(0,_),(3,_)] [] ?_
 refine j5 hn ?_
 obtain ⟨r1,hr2,h⟩:=w9 h
 show p9 Try.prog _ _ _ _
 refine cA (Q7 N a0 (fun x0_=>J7 N x0_ a1) (fun x0_ y_ hy_=>aO8 N x0_ a1 y_ hy_) r1 hr2) ?_
 refine got hn ?_
 obtain rfl:=Option.some.inj h
 exact ⟨[],_,fm⟩

/- slices.IndexFunc[[]api.Line,api.Line] -/
set_option maxRecDepth 100000 in
set_option maxHeartbeats 8000000 in
theorem Q5 (N:Nat) (a0:(List Ln)) (g1:Ln→Option Bool) {K1:Nat} {c1_0:List AV} (hg1:∀x0_ y_,g1 x0_=some y_→Spec Try.prog K1 [] [.agg (K4 x0_),.fp c1_0] (.bool y_) [] []) (r:Int) (h:E8 N a0 g1=some r):Spec Try.prog 75 [] [.sl 2 (List.map K4 a0),.fn K1 [.fp c1_0]] (.int r) [] []:=by
 refine Spec.of J2 Try.func75 rfl Try.ntmps75 (by kernel_rfl) rfl rfl rfl fun Γ hn=>?_
 unfold E8 at h
 refine j5 hn ?_
 refine j3.seqQ fun _ A0 _ R0=>?_
 refine j5 hn ?_
 refine V9 (fun hl1=>?_)
 obtain ⟨o3,h4,h⟩:=w9 h
 refine jk (ι:={ s // o3=Ctl.next s }) hn (fun s=>[]) (fun s=>[]) [] [] (fun _ A1 _ R1=>?_) ?_
 ·refine j3.blkQ fun _ _ E2 _ R2=>?_
  refine lq (ι:={ q:((List Ln)×Nat) // q.1=a0.drop q.2∧l9 N g1 q.1 q.2=some o3 }) hn (fun q=>[(8,.int (q.1.2:Int))]) (fun q=>[]) (fun q=>q.1.1.length) [(0,_),(1,_),(7,_)] [] ⟨(a0,0),rfl,h4⟩ [] ?_
  rintro ⟨⟨rest_,k2⟩,hd6,h4⟩ _ A3 X3 R3
  replace hd6:rest_=a0.drop k2:=hd6
  rcases rest_ with _|⟨x8,rest5⟩
  ·have hlt10:=aI5 hd6
   replace h4:=(l9.eq_1 _ _ _).symm.trans h4
   refine j5 hn ?_
   refine j3.seqQ fun _ _ X4 _=>?_
   refine C8 hn ?_
   refine l5 hlt10 ?_
   refine I6 hn ?_
   refine X4 _ _ _ ?_
   refine X3 _ _ _ ?_
   refine E2 _ _ ?_
   refine A1 _ _ ?_
   exact jn ⟨_,sj h4⟩ []
  ·obtain ⟨hx9,hd2,hlt10⟩:=aE2 hd6
   replace h4:=(l9.eq_2 _ _ _ _ _).symm.trans h4
   refine j5 hn ?_
   refine j3.seqQ fun _ A5 _ _=>?_
   refine C8 hn ?_
   refine l7 hlt10 ?_
   refine D7 hn ?_
   refine A5 _ _ ?_
   refine j3.seqQ fun _ A6 _ R6=>?_
   refine j3.blkQ fun _ A7 _ _ R7=>?_
   refine j5 hn ?_
   refine j5 hn ?_
   refine aZ7 hx9 ?_
   obtain ⟨r11,hr12,h4⟩:=w9 h4
   show p9 Try.prog _ _ _ _
   refine cA (hg1 _ _ hr12) ?_
   refine C8 hn ?_
   refine G8 h4 (fun hb13 h4=>?_) (fun hb13 h4=>?_)
   ·refine j5 hn ?_
    refine got hn ?_
    refine R7 _ _ ?_
    refine R6 _ _ ?_
    refine R3 _ _ ?_
    refine R2 _ _ ?_
    refine R1 _ _ ?_
    refine R0 _ _ ?_
    obtain rfl:=Option.some.inj h4
    obtain rfl:=Option.some.inj h
    exact ⟨[],_,fm⟩
   refine D7 hn ?_
   refine A7 _ _ ?_
   refine A6 _ _ ?_
   refine G5 hn ?_
   refine Or.inl (And.intro (aZ9 hx9 hl1) ?_)
   refine A3 _ _ ?_
   exact jn ⟨(rest5,k2+1),hd2,h4⟩ [] (by show rest5.length < rest5.length+1; omega)
 rintro ⟨⟨⟩,rfl⟩
 refine A0 _ _ ?_
 refine j5 hn ?_
 refine got hn ?_
 obtain rfl:=Option.some.inj h
 exact ⟨[],_,fm⟩

/- slices.ContainsFunc[[]api.Line,api.Line] -/
set_option maxRecDepth 100000 in
set_option maxHeartbeats 8000000 in
theorem P6 (N:Nat) (a0:(List Ln)) (g1:Ln→Option Bool) {K1:Nat} {c1_0:List AV} (hg1:∀x0_ y_,g1 x0_=some y_→Spec Try.prog K1 [] [.agg (K4 x0_),.fp c1_0] (.bool y_) [] []) (r:Bool) (h:D6 N a0 g1=some r):Spec Try.prog 42 [] [.sl 2 (List.map K4 a0),.fn K1 [.fp c1_0]] (.bool r) [] []:=by
 refine Spec.of J2 Try.func42 rfl Try.ntmps42 (by kernel_rfl) rfl rfl rfl fun Γ hn=>?_
 unfold D6 at h
 refine j5 hn ?_
 refine j5 hn ?_
 obtain ⟨r1,hr2,h⟩:=w9 h
 show p9 Try.prog _ _ _ _
 refine cA (Q5 N a0 g1 hg1 r1 hr2) ?_
 refine got hn ?_
 obtain rfl:=Option.some.inj h
 exact ⟨[],_,fm⟩

/- cells.Put$1 -/
set_option maxRecDepth 100000 in
set_option maxHeartbeats 8000000 in
theorem aT5 (N:Nat) (a0:Ln) (b0:Int) (r:Bool) (h:T9 N a0 b0=some r):Spec Try.prog 43 [] [.agg (K4 a0),.fp [.int b0]] (.bool r) [] []:=by
 refine Spec.of J2 Try.func43 rfl Try.ntmps43 (by kernel_rfl) rfl rfl rfl fun Γ hn=>?_
 unfold T9 at h
 refine j5 hn ?_
 refine j5 hn ?_
 refine got hn ?_
 obtain rfl:=Option.some.inj h
 exact ⟨[],_,fm⟩

/- cells.Put -/
theorem bC6 (N:Nat) {l:List Ln} (h:Fit l.length 16):U2 N l=some l:=by
  unfold U2
  rw [show Nat.ble (l.length*16) 140737488355328=true from Nat.ble_eq_true_of_le h]
  rfl
def C9 (t:Ce):List AV:=[.int t.site.cls,.str t.site.name,.int t.site.pos,.int t.epoch,.bool t.many]
def U4 (t:Ce):List AV×List (List AV):=(C9 t,t.lines.map K4)
set_option maxRecDepth 100000 in
theorem aX1 (N:Nat) (l:List Ce) (hf:Fit l.length 72) (hf2:∀t∈l,Fit t.lines.length 16):Spec Try.prog 40 [] [.sl 6 (l.map X0)] (.nst 0) [(0,.nest 6 31 2 91 (l.map U4))] [0]:=by
  refine Spec.of J2 Try.func40 rfl Try.ntmps40 (by kernel_rfl) rfl rfl rfl fun Γ hn=>?_
  (repeat (first|refine j5 hn ?_|refine G5 hn ?_|refine K6 hn ?_|refine C8 hn ?_|refine I6 hn ?_|refine D7 hn ?_|refine got hn ?_))
  refine V9 (fun hlen=>?_)
  (repeat (first|refine j5 hn ?_|refine G5 hn ?_|refine K6 hn ?_|refine C8 hn ?_|refine I6 hn ?_|refine D7 hn ?_|refine got hn ?_))
  refine j3.nilrow 3 3 6 31 rfl rfl rfl ?_
  refine j3.gh (Gh.pins0 100 2 91 rfl rfl) (fun _=>?_)
  refine j3.loop (ι:={p:Nat×List (Hd×List AV×List (List AV)) // p.1≤l.length∧p.2.map (·.2)=(l.take p.1).map U4}) (fun p=>[(6,.sl 6 (l.map X0)),(7,.int l.length),(8,.int p.1.1),(3,.own 3)])
    (fun p=>[(3,.row 6 (p8 p.1.2) 31),(100,.pins 2 (J9 p.1.2) 91)]) (fun p=>l.length - p.1.1) ⟨(0,[]),by omega,rfl⟩ [] ?_ ?_ ?_
  · exact ⟨⟨rfl,rfl,rfl,rfl,trivial⟩,⟨rfl,rfl,trivial⟩,rfl,rfl⟩
  · intro k; rw [hn]; rfl
  rintro ⟨⟨k,z⟩,hk,hz⟩
  have hk:k≤l.length:=hk
  have hz:z.map (·.2)=(l.take k).map U4:=hz
  (repeat (first|refine j5 hn ?_|refine G5 hn ?_|refine K6 hn ?_|refine C8 hn ?_|refine I6 hn ?_|refine D7 hn ?_|refine got hn ?_))
  refine aE8 (fun hlt=>?_) (fun hge=>?_)
  · have hlt:k < l.length:=by have:(k:Int) < (l.length:Int):=hlt; omega
    (repeat (first|refine j5 hn ?_|refine G5 hn ?_|refine K6 hn ?_|refine C8 hn ?_|refine I6 hn ?_|refine D7 hn ?_|refine got hn ?_))
    refine And.intro (by omega) (And.intro (by simpa using hlt) ?_)
    intro cs hcs hrng
    obtain ⟨x,hx,rfl⟩:=bR3 hcs
    have hx:l[k]?=some x:=hx
    (repeat (first|refine j5 hn ?_|refine G5 hn ?_|refine K6 hn ?_|refine C8 hn ?_|refine I6 hn ?_|refine D7 hn ?_|refine got hn ?_))
    show p9 Try.prog _ _ _ _; refine p9.as ((aB9 N x.lines x.lines (bC6 N (hf2 x (List.mem_of_getElem? hx)))).sw 0 14) (by first|exact Y7 rfl|((repeat (refine And.intro rfl ?_)); exact trivial)) (by (repeat (refine And.intro rfl ?_)); exact trivial) rfl ?_
    refine j3.gh (Gh.pinB 5 5 14 100 rfl rfl rfl rfl rfl rfl rfl) (fun h=>?_)
    (repeat (first|refine j5 hn ?_|refine G5 hn ?_|refine K6 hn ?_|refine C8 hn ?_|refine I6 hn ?_|refine D7 hn ?_|refine got hn ?_))
    refine Exists.intro [C9 x++[.con h.v]] (And.intro (by repeat (first|exact trivial|exact rfl|(refine And.intro ?_ ?_))) ?_)
    have hzl:(p8 z).length=k:=by
      have:=a13 hz
      rw [List.length_take] at this
      simp only [p8,List.length_map]
      omega
    refine And.intro ?_ (Exists.intro (p8 (z++[(h,U4 x)])) (And.intro (by rw [aW2]; exact J8 _) ?_))
    · show ((p8 z).length+1)*72≤_
      rw [hzl]
      exact Nat.le_trans (Nat.mul_le_mul_right 72 hlt) hf
    (repeat (first|refine j5 hn ?_|refine G5 hn ?_|refine K6 hn ?_|refine C8 hn ?_|refine I6 hn ?_|refine D7 hn ?_|refine got hn ?_))
    refine Or.inl (And.intro (a04 hlt hlen) ?_)
    have hz2:(z++[(h,U4 x)]).map (·.2)=(l.take (k+1)).map U4:=by
      rw [bF6 hx,List.map_append,List.map_append,show z.map (·.2)=(l.take k).map U4 from hz]
      rfl
    refine ⟨⟨(k+1,z++[(h,U4 x)]),hlt,hz2⟩,[(3,19)],by show l.length - (k+1) < l.length - k; omega,⟨⟨rfl,rfl,rfl,rfl,trivial⟩,⟨rfl,?_,trivial⟩,rfl,rfl⟩⟩
    · exact congrArg (fun q=>some (Obj.pins 2 q 91)) (a01 z (h,U4 x)).symm
  · have e:k=l.length:=by have:¬(k:Int) < (l.length:Int):=hge; omega
    subst e
    have hz:z.map (·.2)=l.map U4:=by
      have:z.map (·.2)=(l.take l.length).map U4:=hz
      rwa [List.take_length] at this
    refine I6 hn ?_
    show j3 Try.prog Γ _ _ _ _; refine j3.gh (Gh.close 3 3 100 101 z rfl rfl rfl rfl rfl hz rfl rfl rfl rfl rfl) ?_
    intro _
    (repeat (first|refine j5 hn ?_|refine G5 hn ?_|refine K6 hn ?_|refine C8 hn ?_|refine I6 hn ?_|refine D7 hn ?_|refine got hn ?_))
    exact ⟨[(0,101)],_,rfl,rfl,⟨rfl,trivial⟩,rfl,rfl,rfl,rfl,rfl⟩
theorem aZ6 (l:List Ce):O4 2 (l.map U4)=l.map X0:=by simp [O4,U4,C9,X0]
theorem bE4 (N:Nat) (s:St):∀(l:List Ce) (k:Nat),j6 N (fun x=>J7 N x s) l k=some (match l.findIdx? (fun t=>decide (t.site=s)) with|some i=>.ret ((k+i:Nat):Int)|none=>.next ())
  |[],k=>rfl
  |x::l,k=>by
    rw [j6,aD7,bE4 N s l (k+1)]
    unfold J7
    rw [show aK5 (eSt x.site) (eSt s)=decide (x.site=s) from bO1 x.site s]
    by_cases e:x.site=s
    · simp [e]
    · cases l.findIdx? (fun t=>decide (t.site=s))<;>simp [e]; omega
theorem aT7 (N:Nat) (l:List Ce) (s:St):O7 N l s=some (ixf (fun t=>decide (t.site=s)) l):=by
  unfold O7 y7 ixf
  rw [bE4]
  cases l.findIdx? (fun t=>decide (t.site=s))<;>simp
theorem bE6 (N:Nat) (c:Int):∀(l:List Ln) (k:Nat),l9 N (fun x=>T9 N x c) l k=some (match l.findIdx? (fun t=>decide (t.cls=c)) with|some i=>.ret ((k+i:Nat):Int)|none=>.next ())
  |[],k=>rfl
  |x::l,k=>by
    rw [l9,aD7,bE6 N c l (k+1)]
    unfold T9
    by_cases e:x.cls=c
    · simp [e]
    · cases l.findIdx? (fun t=>decide (t.cls=c))<;>simp [e]; omega
theorem bR2 (N:Nat) (c:Int) (l:List Ln):D6 N l (fun x=>T9 N x c)=some (decide (0≤ixf (fun t=>decide (t.cls=c)) l)):=by
  unfold D6 E8 ixf
  rw [bE6]
  cases l.findIdx? (fun t=>decide (t.cls=c))<;>simp
set_option maxRecDepth 100000 in
set_option maxHeartbeats 1000000 in
theorem aD3 (N:Nat) (l:List Ce) (s:St) (e:Int) (c:Int) (f:Int) (r:List Ce) (h:U6 N l s e c f=some r):Spec Try.prog 11 [] [.sl 6 (l.map X0),.agg (eSt s),.int e,.int c,.int f] (.own 0) [(0,.row 6 (r.map X0) 31)] [0]:=by
  unfold U6 at h
  obtain ⟨hg,h⟩:=aH4 h
  obtain rfl:=Option.some.inj h
  rw [Bool.and_eq_true,List.all_eq_true] at hg
  have hf:Fit (l.length+1) 72:=Nat.le_of_ble_eq_true hg.1
  have hf2:∀t∈l,Fit (t.lines.length+1) 16:=fun t ht=>Nat.le_of_ble_eq_true (hg.2 t ht)
  clear h hg
  refine Spec.of J2 Try.func11 rfl Try.ntmps11 (by kernel_rfl) rfl rfl rfl fun Γ hn=>?_
  refine j5 hn ?_
  show j3 Try.prog Γ _ _ _ _; refine j3.gh (Gh.fzBox 6 6 rfl rfl rfl) ?_
  intro _
  show j3 Try.prog Γ _ _ _ _; refine j3.gh (Gh.fzBox 8 8 rfl rfl rfl) ?_
  intro _
  (repeat (first|refine j5 hn ?_|refine G5 hn ?_|refine K6 hn ?_|refine C8 hn ?_|refine I6 hn ?_|refine D7 hn ?_|refine got hn ?_))
  show p9 Try.prog _ _ _ _; refine p9.as ((aX1 N l (Nat.le_trans (Nat.mul_le_mul_right _ (Nat.le_succ _)) hf) (fun t ht=>Nat.le_trans (Nat.mul_le_mul_right _ (Nat.le_succ _)) (hf2 t ht))).sw 0 15) (by first|exact Y7 rfl|((repeat (refine And.intro rfl ?_)); exact trivial)) (by (repeat (refine And.intro rfl ?_)); exact trivial) rfl ?_
  (repeat (first|refine j5 hn ?_|refine G5 hn ?_|refine K6 hn ?_|refine C8 hn ?_|refine I6 hn ?_|refine D7 hn ?_|refine got hn ?_))
  show p9 Try.prog _ _ _ _
  refine p9.lend (aJ1 N l s _ (aT7 N l s)) ?_ rfl ?_
  · show Y5 [.sl 6 (O4 2 (l.map U4)),.agg (eSt s)] _
    rw [aZ6]
    exact Y7 rfl
  show j3 Try.prog Γ _ _ _ _; refine j3.gh (Gh.open 11 15 102 103 rfl rfl rfl rfl rfl rfl (fun _=>rfl)) ?_
  rintro ⟨z,hz⟩
  refine j3.cut (ι:={ q:Nat×Ce×Hd×List (Hd×List AV×List (List AV)) // q.2.2.2[q.1]?=some (q.2.2.1,U4 q.2.1)∧q.2.2.2.map (·.2)=(ixd (fun t:Ce=>decide (t.site=s)) ⟨s,e,false,[]⟩ l).1.map U4∧(ixd (fun t:Ce=>decide (t.site=s)) ⟨s,e,false,[]⟩ l).1[q.1]?=some q.2.1∧(ixd (fun t:Ce=>decide (t.site=s)) ⟨s,e,false,[]⟩ l).2=q.1∧Fit (q.2.1.lines.length+1) 16∧q.2.1.site=s })
    (fun q=>[(11,.own 102),(12,.int q.1.1),(2,.int e),(4,.int f),(6,.fp (eSt s)),(8,.fp [.int c])]) (fun q=>[(102,.row 6 (p8 q.1.2.2.2) 31),(103,.pins 2 ((J9 q.1.2.2.2).eraseIdx q.1.1) 91),(104,.row 2 (q.1.2.1.lines.map K4) 91),(105,.eqv 104 q.1.2.2.1.v)]) ?_ ?_ ?_
  · (repeat (first|refine j5 hn ?_|refine G5 hn ?_|refine K6 hn ?_|refine C8 hn ?_|refine I6 hn ?_|refine D7 hn ?_|refine got hn ?_))
    rcases aT1 (fun t:Ce=>decide (t.site=s)) l with ⟨k,x,e1,e2,e3,e4⟩|⟨e1,e2⟩
    · refine aE8 (fun hlt=>?_) (fun hge=>?_)
      · rw [e1] at hlt; omega
      · obtain ⟨h,hz1⟩:=bP4 hz e2
        have hp:(J9 z).Perm ((h,x.lines.map K4)::(J9 z).eraseIdx k):=by
          have hk:(J9 z)[k]?=some (h,x.lines.map K4):=by simp [J9,hz1,U4]
          obtain ⟨hl,hv⟩:=List.getElem?_eq_some_iff.1 hk
          rw [←hv]
          exact (List.getElem_cons_eraseIdx_perm' hl).symm
        show j3 Try.prog Γ _ _ _ _; refine j3.gh (Gh.unpin 103 104 105 rfl hp rfl rfl rfl rfl rfl) ?_
        intro _
        refine D7 hn ?_
        have ex:ixd (fun t:Ce=>decide (t.site=s)) ⟨s,e,false,[]⟩ l=(l,k):=by unfold ixd; rw [e4]
        refine ⟨⟨(k,x,h,z),hz1,by rw [ex]; exact hz,by rw [ex]; exact e2,by rw [ex],hf2 x (List.mem_of_getElem? e2),of_decide_eq_true e3⟩,[],⟨⟨rfl,congrArg AV.int e1,rfl,rfl,rfl,rfl,trivial⟩,⟨rfl,rfl,rfl,rfl,trivial⟩,rfl,rfl⟩⟩
    · refine aE8 (fun hlt=>?_) (fun hge=>?_)
      · (repeat (first|refine j5 hn ?_|refine G5 hn ?_|refine K6 hn ?_|refine C8 hn ?_|refine I6 hn ?_|refine D7 hn ?_|refine got hn ?_))
        rintro _ rfl hlen
        refine j3.ops (goo hn 7 ?_)
        refine Exists.intro [[.int s.cls,.str s.name,.int s.pos,.int e,.bool false,.nilsl]] (And.intro (by repeat (first|exact trivial|exact rfl|(refine And.intro ?_ ?_))) ?_)
        refine And.intro ?_ (Exists.intro (p8 z++[[AV.int s.cls,.str s.name,.int s.pos,.int e,.bool false,.nilsl]]) (And.intro (J8 _) ?_))
        · show ((p8 z).length+1)*72≤_
          rw [show (p8 z).length=l.length by simp only [p8,List.length_map]; exact a13 hz]
          exact hf
        have hat:(p8 z++[[AV.int s.cls,.str s.name,.int s.pos,.int e,.bool false,.nilsl]])[l.length]?=some [AV.int s.cls,.str s.name,.int s.pos,.int e,.bool false,.nilsl]:=by
          rw [List.getElem?_append_right (by simp [p8,a13 hz])]
          simp [p8,a13 hz]
        show OOk Try.prog Γ _ _ _ _ _
        refine OOk.gh (Gh.unnil (r:=28) (i:=l.length) (off:=5) (j:=104) (j':=105) (isz:=2) (ie:=91) rfl hat rfl rfl rfl rfl rfl rfl) ?_
        intro _
        refine OOk.done ?_
        have ex:ixd (fun t:Ce=>decide (t.site=s)) ⟨s,e,false,[]⟩ l=(l++[⟨s,e,false,[]⟩],l.length):=by unfold ixd; rw [e2]
        have hlz:=a13 hz
        refine ⟨⟨(l.length,⟨s,e,false,[]⟩,⟨none,0,0⟩,z++[(⟨none,0,0⟩,U4 ⟨s,e,false,[]⟩)]),?_,?_,?_,?_,?_,rfl⟩,[(102,28)],⟨⟨rfl,?_,rfl,rfl,rfl,rfl,trivial⟩,⟨?_,?_,rfl,rfl,trivial⟩,rfl,rfl⟩⟩
        · show (z++[_])[l.length]?=_
          rw [List.getElem?_append_right (by omega)]
          simp [hlz]
        · rw [ex]
          show List.map (fun p:Hd×List AV×List (List AV)=>p.2) (z++[_])=List.map U4 (l++[_])
          rw [List.map_append,List.map_append,hz]
          rfl
        · rw [ex]
          show (l++[_])[l.length]?=_
          rw [List.getElem?_append_right (Nat.le_refl _)]
          simp
        · rw [ex]
        · show (0+1)*16≤_
          decide
        · exact congrArg AV.int (by simp [p8,hlz])
        · refine congrArg (fun q=>some (Obj.row 6 q 31)) ?_
          show (p8 z++[_]).set l.length _=p8 (z++[_])
          rw [aW2,List.set_append_right _ _ (by simp [p8,hlz])]
          simp [p8,hlz,U4,C9]
        · refine congrArg (fun q=>some (Obj.pins 2 q 91)) ?_
          show J9 z=(J9 (z++[_])).eraseIdx l.length
          rw [a01,List.eraseIdx_append_of_length_le (by simp [J9,hlz])]
          simp [J9,hlz]
      · rw [e1] at hge; omega
  · intro k; rw [hn]; rfl
  rintro ⟨⟨k,x,h,z⟩,hq1,hq2,hq3,hq4,hq5,hq6⟩
  have hq1:z[k]?=some (h,U4 x):=hq1
  have hq6:x.site=s:=hq6
  have hkz:k < (p8 z).length:=by
    have:=(List.getElem?_eq_some_iff.1 hq1).1
    simpa [p8] using this
  have hat:(p8 z)[k]?=some (C9 x++[.con h.v]):=by simp [p8,hq1,U4]
  (repeat (first|refine j5 hn ?_|refine G5 hn ?_|refine K6 hn ?_|refine C8 hn ?_|refine I6 hn ?_|refine D7 hn ?_|refine got hn ?_))
  refine And.intro (by omega) (And.intro (by simpa using hkz) ?_)
  refine And.intro (by simpa using hkz) (fun cs hcs=>?_)
  have hcs:(p8 z)[k]?=some cs:=hcs
  obtain rfl:cs=C9 x++[.con h.v]:=Option.some.inj (hcs.symm.trans hat)
  show j3 Try.prog Γ _ _ _ _
  refine j3.joinR (ι:={ q:Ce×Hd // q.1=K8 e x∧Fit (q.1.lines.length+1) 16 })
    (fun q=>[(11,.own 102),(12,.int k),(4,.int f),(8,.fp [.int c])]) (fun q=>[(102,.row 6 ((p8 z).set k (C9 q.1.1++[.con q.1.2.v])) 31),(103,.pins 2 ((J9 z).eraseIdx k) 91),(104,.row 2 (q.1.1.lines.map K4) 91),(105,.eqv 104 q.1.2.v)]) (fun Q2 q2n q2x q2r=>?_) (by intro k; rw [hn]; rfl) ?_
  · (repeat (first|refine j5 hn ?_|refine G5 hn ?_|refine K6 hn ?_|refine C8 hn ?_|refine I6 hn ?_|refine D7 hn ?_|refine got hn ?_))
    refine aR6 (fun hb=>?_) (fun hb=>?_)
    · have hne:¬x.epoch=e:=by simpa using hb
      have hfr:K8 e x=⟨x.site,e,false,[]⟩:=if_neg hne
      refine G5 hn ?_
      refine And.intro (by omega) (And.intro (by simpa using hkz) ?_)
      refine And.intro (by simpa using hkz) (fun cs hcs=>?_)
      have hcs:(p8 z)[k]?=some cs:=hcs
      obtain rfl:cs=C9 x++[.con h.v]:=Option.some.inj (hcs.symm.trans hat)
      refine Exists.intro ((p8 z).set k [.int s.cls,.str s.name,.int s.pos,.int e,.bool false,.nilsl]) (And.intro (J8 _) ?_)
      have hat2:((p8 z).set k [AV.int s.cls,.str s.name,.int s.pos,.int e,.bool false,.nilsl])[k]?=some [AV.int s.cls,.str s.name,.int s.pos,.int e,.bool false,.nilsl]:=by rw [List.getElem?_set,if_pos rfl,if_pos hkz]
      refine q2n _ _ ?_
      refine I8.gh (Gh.unnil (r:=102) (i:=k) (off:=5) (j:=106) (j':=107) (isz:=2) (ie:=91) rfl hat2 rfl rfl rfl rfl rfl rfl) (fun _=>?_)
      refine I8.done ?_
      refine ⟨⟨(K8 e x,⟨none,0,0⟩),rfl,by show Fit ((K8 e x).lines.length+1) 16; rw [hfr]; show (0+1)*16≤_; decide⟩,[(104,106),(105,107)],trivial,⟨⟨rfl,rfl,rfl,rfl,trivial⟩,⟨?_,rfl,?_,rfl,trivial⟩,rfl,rfl⟩⟩
      · refine congrArg (fun q=>some (Obj.row 6 q 31)) ?_
        show ((p8 z).set k [AV.int s.cls,.str s.name,.int s.pos,.int e,.bool false,.nilsl]).set k [AV.int s.cls,.str s.name,.int s.pos,.int e,.bool false,.con (⟨none,0,0⟩:Hd).v]=(p8 z).set k (C9 (K8 e x)++[.con (⟨none,0,0⟩:Hd).v])
        rw [List.set_set,hfr,←hq6]
        rfl
      · refine congrArg (fun q=>some (Obj.row 2 q 91)) ?_
        show []=List.map K4 (K8 e x).lines
        rw [hfr]
        rfl
    · have he:x.epoch=e:=by simpa using hb
      have hfr:K8 e x=x:=if_pos he
      refine D7 hn ?_
      refine q2n _ _ ?_
      refine I8.done ?_
      refine ⟨⟨(K8 e x,h),rfl,by show Fit ((K8 e x).lines.length+1) 16; rw [hfr]; exact hq5⟩,[],trivial,⟨⟨rfl,rfl,rfl,rfl,trivial⟩,⟨?_,rfl,?_,rfl,trivial⟩,rfl,rfl⟩⟩
      · refine congrArg (fun q=>some (Obj.row 6 q 31)) ?_
        show p8 z=(p8 z).set k (C9 (K8 e x)++[.con h.v])
        rw [hfr]
        exact (bF2 hat).symm
      · refine congrArg (fun q=>some (Obj.row 2 q 91)) ?_
        show List.map K4 x.lines=List.map K4 (K8 e x).lines
        rw [hfr]
  rintro ⟨⟨y,g⟩,hy,hg5⟩
  have hy:y=K8 e x:=hy
  have hg5:Fit (y.lines.length+1) 16:=hg5
  have hatg:((p8 z).set k (C9 y++[.con g.v]))[k]?=some (C9 y++[.con g.v]):=by rw [List.getElem?_set,if_pos rfl,if_pos hkz]
  (repeat (first|refine j5 hn ?_|refine G5 hn ?_|refine K6 hn ?_|refine C8 hn ?_|refine I6 hn ?_|refine D7 hn ?_|refine got hn ?_))
  refine And.intro (by omega) (And.intro (by simpa using hkz) ?_)
  show j3 Try.prog Γ _ _ _ _
  refine j3.seqQ fun Q4 q4n q4x q4r=>?_
  refine j3.joinR (ι:=Hd) (fun q=>[(11,.own 102),(12,.int k)]) (fun q=>[(102,.row 6 ((p8 z).set k (C9 (E9 c f y)++[.con q.v])) 31),(103,.pins 2 ((J9 z).eraseIdx k) 91),(104,.row 2 ((E9 c f y).lines.map K4) 91),(105,.eqv 104 q.v)]) (fun Q3 q3n q3x q3r=>?_) (by intro k; rw [hn]; rfl) ?_
  · (repeat (first|refine j5 hn ?_|refine G5 hn ?_|refine K6 hn ?_|refine C8 hn ?_|refine I6 hn ?_|refine D7 hn ?_|refine got hn ?_))
    refine And.intro (by simpa using hkz) (fun cs hcs=>?_)
    have hcs:((p8 z).set k (C9 y++[.con g.v]))[k]?=some cs:=hcs
    obtain rfl:cs=C9 y++[.con g.v]:=Option.some.inj (hcs.symm.trans hatg)
    refine aR6 (fun hm=>?_) (fun hm=>?_)
    · repeat (refine l7 hm ?_)
      have hl:E9 c f y=y:=if_pos (Or.inl hm)
      (repeat (first|refine j5 hn ?_|refine G5 hn ?_|refine K6 hn ?_|refine C8 hn ?_|refine I6 hn ?_|refine D7 hn ?_|refine got hn ?_))
      refine q3n _ _ ?_
      refine I8.done ?_
      refine ⟨g,[],trivial,⟨⟨rfl,rfl,trivial⟩,⟨?_,rfl,?_,rfl,trivial⟩,rfl,rfl⟩⟩
      · refine congrArg (fun q=>some (Obj.row 6 q 31)) ?_
        show (p8 z).set k (C9 y++[.con g.v])=(p8 z).set k (C9 (E9 c f y)++[.con g.v])
        rw [hl]
      · refine congrArg (fun q=>some (Obj.row 2 q 91)) ?_
        show List.map K4 y.lines=List.map K4 (E9 c f y).lines
        rw [hl]
    · refine l5 hm ?_
      refine l5 hm ?_
      refine l5 hm ?_
      refine And.intro (by simpa using hkz) (fun cs hcs=>?_)
      have hcs:((p8 z).set k (C9 y++[.con g.v]))[k]?=some cs:=hcs
      obtain rfl:cs=C9 y++[.con g.v]:=Option.some.inj (hcs.symm.trans hatg)
      refine And.intro rfl ?_
      refine l5 hm ?_
      refine l5 hm ?_
      show p9 Try.prog _ _ _ _
      refine p9.lend (P6 N y.lines (fun x=>T9 N x c) (fun x v hv=>aT5 N x c v hv) _ (bR2 N c y.lines)) (Y7 rfl) rfl ?_
      refine l5 hm ?_
      (repeat (first|refine j5 hn ?_|refine G5 hn ?_|refine K6 hn ?_|refine C8 hn ?_|refine I6 hn ?_|refine D7 hn ?_|refine got hn ?_))
      refine aR6 (fun hc=>?_) (fun hc=>?_)
      · have hl:E9 c f y=y:=if_pos (Or.inr (of_decide_eq_true hc))
        (repeat (first|refine j5 hn ?_|refine G5 hn ?_|refine K6 hn ?_|refine C8 hn ?_|refine I6 hn ?_|refine D7 hn ?_|refine got hn ?_))
        refine q3n _ _ ?_
        refine I8.done ?_
        refine ⟨g,[],trivial,⟨⟨rfl,rfl,trivial⟩,⟨?_,rfl,?_,rfl,trivial⟩,rfl,rfl⟩⟩
        · refine congrArg (fun q=>some (Obj.row 6 q 31)) ?_
          show (p8 z).set k (C9 y++[.con g.v])=(p8 z).set k (C9 (E9 c f y)++[.con g.v])
          rw [hl]
        · refine congrArg (fun q=>some (Obj.row 2 q 91)) ?_
          show List.map K4 y.lines=List.map K4 (E9 c f y).lines
          rw [hl]
      · have hno:¬(y.many=true∨0≤ixf (fun t:Ln=>decide (t.cls=c)) y.lines):=by
          rintro (h|h)
          · rw [h] at hm; cases hm
          · exact absurd h (of_decide_eq_false hc)
        (repeat (first|refine j5 hn ?_|refine G5 hn ?_|refine K6 hn ?_|refine C8 hn ?_|refine I6 hn ?_|refine D7 hn ?_|refine got hn ?_))
        refine And.intro (by simpa using hkz) (fun cs hcs=>?_)
        have hcs:((p8 z).set k (C9 y++[.con g.v]))[k]?=some cs:=hcs
        obtain rfl:cs=C9 y++[.con g.v]:=Option.some.inj (hcs.symm.trans hatg)
        refine And.intro rfl ?_
        rintro _ rfl hlen2
        (repeat (first|refine j5 hn ?_|refine G5 hn ?_|refine K6 hn ?_|refine C8 hn ?_|refine I6 hn ?_|refine D7 hn ?_|refine got hn ?_))
        refine aE8 (fun hlt=>?_) (fun hge=>?_)
        · have h3:(3:Int)≤(y.lines.length:Int):=by simpa using hlt
          have hl:E9 c f y=⟨y.site,y.epoch,true,[]⟩:=by unfold E9; rw [if_neg hno,if_pos h3]
          (repeat (first|refine j5 hn ?_|refine G5 hn ?_|refine K6 hn ?_|refine C8 hn ?_|refine I6 hn ?_|refine D7 hn ?_|refine got hn ?_))
          refine And.intro (by simpa using hkz) (fun cs hcs=>?_)
          have hcs:((p8 z).set k (C9 y++[.con g.v]))[k]?=some cs:=hcs
          obtain rfl:cs=C9 y++[.con g.v]:=Option.some.inj (hcs.symm.trans hatg)
          refine Exists.intro ((p8 z).set k [.int y.site.cls,.str y.site.name,.int y.site.pos,.int y.epoch,.bool true,.con g.v]) (And.intro (by show Q0 (((p8 z).set k (C9 y++[.con g.v])).set k [AV.int y.site.cls,.str y.site.name,.int y.site.pos,.int y.epoch,.bool true,.con g.v]) _; rw [List.set_set]; exact J8 _) ?_)
          have hat5:((p8 z).set k [AV.int y.site.cls,.str y.site.name,.int y.site.pos,.int y.epoch,.bool true,.con g.v])[k]?=some [AV.int y.site.cls,.str y.site.name,.int y.site.pos,.int y.epoch,.bool true,.con g.v]:=by rw [List.getElem?_set,if_pos rfl,if_pos hkz]
          refine And.intro (by simpa using hkz) (fun cs hcs=>?_)
          have hcs:((p8 z).set k [AV.int y.site.cls,.str y.site.name,.int y.site.pos,.int y.epoch,.bool true,.con g.v])[k]?=some cs:=hcs
          obtain rfl:cs=[AV.int y.site.cls,.str y.site.name,.int y.site.pos,.int y.epoch,.bool true,.con g.v]:=Option.some.inj (hcs.symm.trans hat5)
          refine Exists.intro ((p8 z).set k [.int y.site.cls,.str y.site.name,.int y.site.pos,.int y.epoch,.bool true,.nilsl]) (And.intro (by show Q0 (((p8 z).set k [AV.int y.site.cls,.str y.site.name,.int y.site.pos,.int y.epoch,.bool true,.con g.v]).set k [AV.int y.site.cls,.str y.site.name,.int y.site.pos,.int y.epoch,.bool true,.nilsl]) _; rw [List.set_set]; exact J8 _) ?_)
          have hat6:((p8 z).set k [AV.int y.site.cls,.str y.site.name,.int y.site.pos,.int y.epoch,.bool true,.nilsl])[k]?=some [AV.int y.site.cls,.str y.site.name,.int y.site.pos,.int y.epoch,.bool true,.nilsl]:=by rw [List.getElem?_set,if_pos rfl,if_pos hkz]
          (repeat (first|refine j5 hn ?_|refine G5 hn ?_|refine K6 hn ?_|refine C8 hn ?_|refine I6 hn ?_|refine D7 hn ?_|refine got hn ?_))
          refine q3n _ _ ?_
          refine I8.gh (Gh.unnil (r:=102) (i:=k) (off:=5) (j:=106) (j':=107) (isz:=2) (ie:=91) rfl hat6 rfl rfl rfl rfl rfl rfl) (fun _=>?_)
          refine I8.done ?_
          refine ⟨⟨none,0,0⟩,[(104,106),(105,107)],trivial,⟨⟨rfl,rfl,trivial⟩,⟨?_,rfl,?_,rfl,trivial⟩,rfl,rfl⟩⟩
          · refine congrArg (fun q=>some (Obj.row 6 q 31)) ?_
            show ((p8 z).set k [AV.int y.site.cls,.str y.site.name,.int y.site.pos,.int y.epoch,.bool true,.nilsl]).set k [AV.int y.site.cls,.str y.site.name,.int y.site.pos,.int y.epoch,.bool true,.con (⟨none,0,0⟩:Hd).v]=(p8 z).set k (C9 (E9 c f y)++[.con (⟨none,0,0⟩:Hd).v])
            rw [List.set_set,hl]
            rfl
          · refine congrArg (fun q=>some (Obj.row 2 q 91)) ?_
            show []=List.map K4 (E9 c f y).lines
            rw [hl]
            rfl
        · have h3:¬(3:Int)≤(y.lines.length:Int):=by simpa using hge
          have hl:E9 c f y=⟨y.site,y.epoch,y.many,y.lines++[⟨c,f⟩]⟩:=by unfold E9; rw [if_neg hno,if_neg h3]
          refine god hn (by kernel_rfl) ?_
          refine And.intro (by simpa using hkz) (fun cs hcs=>?_)
          have hcs:((p8 z).set k (C9 y++[.con g.v]))[k]?=some cs:=hcs
          obtain rfl:cs=C9 y++[.con g.v]:=Option.some.inj (hcs.symm.trans hatg)
          refine And.intro rfl ?_
          refine Exists.intro (List.map K4 [⟨c,f⟩]) (And.intro (by repeat (first|exact trivial|exact rfl|(refine And.intro ?_ ?_))) ?_)
          refine And.intro ?_ (Exists.intro (List.map K4 (y.lines++[⟨c,f⟩])) (And.intro (aP0 (J8 _)) ?_))
          · show ((y.lines.map K4).length+1)*16≤_
            rw [List.length_map]
            exact hg5
          refine And.intro (by simpa using hkz) (And.intro ?_ ?_)
          · intro cs hcs
            have hcs:((p8 z).set k (C9 y++[.con g.v]))[k]?=some cs:=hcs
            obtain rfl:cs=C9 y++[.con g.v]:=Option.some.inj (hcs.symm.trans hatg)
            show 5 < 6
            omega
          refine q3n _ _ ?_
          refine I8.gh (Gh.rowx 102 106 rfl rfl rfl (fun _=>rfl) rfl) (fun g'=>?_)
          refine I8.done ?_
          refine ⟨g',[(104,54),(105,106)],trivial,⟨⟨rfl,rfl,trivial⟩,⟨?_,rfl,?_,rfl,trivial⟩,rfl,rfl⟩⟩
          · refine congrArg (fun q=>some (Obj.row 6 q 31)) ?_
            show Y4 ((p8 z).set k (C9 y++[.con g.v])) k 5 (.con g'.v)=(p8 z).set k (C9 (E9 c f y)++[.con g'.v])
            unfold Y4
            rw [hatg,hl]
            show ((p8 z).set k _).set k _=_
            rw [List.set_set]
            rfl
          · refine congrArg (fun q=>some (Obj.row 2 q 91)) ?_
            show List.map K4 (y.lines++[⟨c,f⟩])=List.map K4 (E9 c f y).lines
            rw [hl]
  intro q
  refine q4n _ _ ?_
  have hat4:((p8 z).set k (C9 (E9 c f y)++[.con q.v]))[k]?=some (C9 (E9 c f y)++[.con q.v]):=by rw [List.getElem?_set,if_pos rfl,if_pos hkz]
  have hzk:k < z.length:=(List.getElem?_eq_some_iff.1 hq1).1
  have hp:(J9 (z.set k (q,C9 (E9 c f y),(E9 c f y).lines.map K4))).Perm ((q,(E9 c f y).lines.map K4)::(J9 z).eraseIdx k):=by
    rw [show J9 (z.set k (q,C9 (E9 c f y),(E9 c f y).lines.map K4))=(J9 z).set k (q,(E9 c f y).lines.map K4) by simp [J9,List.map_set]]
    exact set_perm (by simpa [J9] using hzk)
  show j3 Try.prog Γ _ _ _ _
  refine j3.gh (Gh.repin (h:=q) (ls:=(E9 c f y).lines.map K4) (l':=J9 (z.set k (q,C9 (E9 c f y),(E9 c f y).lines.map K4))) 104 105 103 rfl rfl rfl hp rfl rfl rfl) (fun _=>?_)
  have hz2:(z.set k (q,C9 (E9 c f y),(E9 c f y).lines.map K4)).map (·.2)=((ixd (fun t:Ce=>decide (t.site=s)) ⟨s,e,false,[]⟩ l).1.modify (ixd (fun t:Ce=>decide (t.site=s)) ⟨s,e,false,[]⟩ l).2 (aA8 e c f)).map U4:=by
    have h2:(ixd (fun t:Ce=>decide (t.site=s)) ⟨s,e,false,[]⟩ l).2=k:=hq4
    have h3:z.map (·.2)=(ixd (fun t:Ce=>decide (t.site=s)) ⟨s,e,false,[]⟩ l).1.map U4:=hq2
    have h4:(ixd (fun t:Ce=>decide (t.site=s)) ⟨s,e,false,[]⟩ l).1[k]?=some x:=hq3
    rw [h2,bB6 h4,List.map_set,List.map_set,h3]
    unfold aA8
    rw [←hy]
    rfl
  refine j3.gh (Gh.close 11 102 103 108 (z.set k (q,C9 (E9 c f y),(E9 c f y).lines.map K4)) rfl rfl rfl (by show (p8 z).set k _=_; simp [p8,List.map_set]) rfl hz2 rfl rfl rfl rfl rfl) (fun _=>?_)
  show j3 Try.prog Γ _ _ _ _
  refine j3.flat 11 108 109 rfl rfl rfl rfl rfl ?_
  rw [aZ6]
  (repeat (first|refine j5 hn ?_|refine G5 hn ?_|refine K6 hn ?_|refine C8 hn ?_|refine I6 hn ?_|refine D7 hn ?_|refine got hn ?_))
  exact ⟨[(0,109)],_,rfl,rfl,⟨rfl,trivial⟩,rfl,rfl,rfl,rfl,rfl⟩

/- cells.Get -/
set_option maxRecDepth 100000 in
set_option maxHeartbeats 8000000 in
theorem V4 (N:Nat) (a0:(List Ce)) (a1:St) (a2:Int) (a3:Int) (r:Int) (h:O3 N a0 a1 a2 a3=some r):Spec Try.prog 12 [] [.sl 6 (List.map X0 a0),.agg (eSt a1),.int a2,.int a3] (.int r) [] []:=by
 refine Spec.of J2 Try.func12 rfl Try.ntmps12 (by kernel_rfl) rfl rfl rfl fun Γ hn=>?_
 unfold O3 at h
 refine j5 hn ?_
 refine j5 hn ?_
 obtain ⟨r1,hr2,h⟩:=w9 h
 show p9 Try.prog _ _ _ _
 refine cA (aJ1 N a0 a1 r1 hr2) ?_
 refine j3.seqQ fun _ A0 _ R0=>?_
 refine j3.seqQ fun _ A1 _ _=>?_
 obtain ⟨o5,h4,h⟩:=w9 h
 refine jk (ι:={ s // o5=s }) hn (fun s=>[(25,.bool s.1)]) (fun s=>[]) [(0,_),(3,_),(9,_)] [] (fun _ A2 _ _=>?_) ?_
 ·refine G5 hn ?_
  refine G8 h4 (fun hb6 h4=>?_) (fun hb6 h4=>?_)
  ·refine l7 hb6 ?_
   refine l7 hb6 ?_
   refine l7 hb6 ?_
   refine l7 hb6 ?_
   refine l7 hb6 ?_
   refine l7 hb6 ?_
   refine l7 hb6 ?_
   refine A2 _ _ ?_
   exact jn ⟨_,sj h4⟩ []
  refine l5 hb6 ?_
  refine l5 hb6 ?_
  obtain ⟨x7,hx8,h4⟩:=w9 h4
  refine aQ3 hx8 ?_
  refine l5 hb6 ?_
  refine l5 hb6 ?_
  refine l5 hb6 ?_
  refine l5 hb6 ?_
  refine l5 hb6 ?_
  refine A2 _ _ ?_
  exact jn ⟨_,sj h4⟩ []
 rintro ⟨v3,hv_⟩
 replace hv_:=hv_.symm
 subst hv_
 refine A1 _ _ ?_
 refine C8 hn ?_
 refine G8 h (fun hb9 h=>?_) (fun hb9 h=>?_)
 ·refine j5 hn ?_
  refine got hn ?_
  refine R0 _ _ ?_
  obtain rfl:=Option.some.inj h
  exact ⟨[],_,fm⟩
 refine D7 hn ?_
 refine A0 _ _ ?_
 refine j3.seqQ fun _ A3 _ R3=>?_
 refine j5 hn ?_
 obtain ⟨x10,hx11,h⟩:=w9 h
 refine aQ3 hx11 ?_
 refine V9 (fun hl12=>?_)
 obtain ⟨o14,h15,h⟩:=w9 h
 refine jk (ι:={ s // o14=Ctl.next s }) hn (fun s=>[]) (fun s=>[]) [] [] (fun _ A4 _ R4=>?_) ?_
 ·refine j3.blkQ fun _ _ E5 _ R5=>?_
  refine lq (ι:={ q:((List Ln)×Nat) // q.1=x10.lines.drop q.2∧M4 N a3 q.1 q.2=some o14 }) hn (fun q=>[(32,.int (q.1.2:Int))]) (fun q=>[]) (fun q=>q.1.1.length) [(3,_),(30,_),(31,_)] [] ⟨(x10.lines,0),rfl,h15⟩ [] ?_
  rintro ⟨⟨rest_,k13⟩,hd17,h15⟩ _ A6 X6 R6
  replace hd17:rest_=x10.lines.drop k13:=hd17
  rcases rest_ with _|⟨x19,rest16⟩
  ·have hlt21:=aI5 hd17
   replace h15:=(M4.eq_1 _ _ _).symm.trans h15
   refine j5 hn ?_
   refine j3.seqQ fun _ _ X7 _=>?_
   refine C8 hn ?_
   refine l5 hlt21 ?_
   refine I6 hn ?_
   refine X7 _ _ _ ?_
   refine X6 _ _ _ ?_
   refine E5 _ _ ?_
   refine A4 _ _ ?_
   exact jn ⟨_,sj h15⟩ []
  ·obtain ⟨hx20,hd2,hlt21⟩:=aE2 hd17
   replace h15:=(M4.eq_2 _ _ _ _ _).symm.trans h15
   refine j5 hn ?_
   refine j3.seqQ fun _ A8 _ _=>?_
   refine C8 hn ?_
   refine l7 hlt21 ?_
   refine D7 hn ?_
   refine A8 _ _ ?_
   refine j3.seqQ fun _ A9 _ R9=>?_
   refine j3.blkQ fun _ A10 _ _ R10=>?_
   refine j5 hn ?_
   refine aZ7 hx20 ?_
   refine j5 hn ?_
   refine C8 hn ?_
   refine G8 h15 (fun hb22 h15=>?_) (fun hb22 h15=>?_)
   ·refine j5 hn ?_
    refine got hn ?_
    refine R10 _ _ ?_
    refine R9 _ _ ?_
    refine R6 _ _ ?_
    refine R5 _ _ ?_
    refine R4 _ _ ?_
    refine R3 _ _ ?_
    obtain rfl:=Option.some.inj h15
    obtain rfl:=Option.some.inj h
    exact ⟨[],_,fm⟩
   refine D7 hn ?_
   refine A10 _ _ ?_
   refine A9 _ _ ?_
   refine G5 hn ?_
   refine Or.inl (And.intro (aZ9 hx20 hl12) ?_)
   refine A6 _ _ ?_
   exact jn ⟨(rest16,k13+1),hd2,h15⟩ [] (by show rest16.length < rest16.length+1; omega)
 rintro ⟨⟨⟩,rfl⟩
 refine A3 _ _ ?_
 refine j5 hn ?_
 refine got hn ?_
 obtain rfl:=Option.some.inj h
 exact ⟨[],_,fm⟩

/- slices.BinarySearchFunc[[]api.Method,api.Method,string] -/
set_option maxRecDepth 100000 in
set_option maxHeartbeats 8000000 in
theorem K5 (N:Nat) (a0:(List Me)) (a1:ByteArray) (g2:Me→ByteArray→Option Int) {K2:Nat} (hg2:∀x0_ x1_ y_,g2 x0_ x1_=some y_→Spec Try.prog K2 [] [.agg (eMe x0_),.str x1_] (.int y_) [] []) (r:(Int×Bool)) (h:z8 N a0 a1 g2=some r):Spec Try.prog 67 [] [.sl 5 (List.map eMe a0),.str a1,.fn K2 []] (.tup [.int r.1,.bool r.2]) [] []:=by
 refine Spec.of J2 Try.func67 rfl Try.ntmps67 (by kernel_rfl) rfl rfl rfl fun Γ hn=>?_
 unfold z8 at h
 refine j5 hn ?_
 refine j5 hn ?_
 refine V9 (fun _=>?_)
 refine j5 hn ?_
 refine j3.seqQ fun _ A0 _ _=>?_
 obtain ⟨o8,h9,h⟩:=w9 h
 refine jk (ι:={ s // o8=s }) hn (fun s=>[(9,.int s.1)]) (fun s=>[]) [(0,_),(1,_),(2,_),(8,_)] [] (fun _ A1 _ _=>?_) ?_
 ·refine j3.blkQ fun _ _ E2 _ _=>?_
  refine lq (ι:={ q:(Nat×Int×Int) // l8 N a0 a1 g2 q.1 q.2.1 q.2.2=some o8 }) hn (fun q=>[(9,.int q.1.2.1),(10,.int q.1.2.2)]) (fun q=>[]) (fun q=>q.1.1) [(0,_),(1,_),(2,_),(8,_)] [] ⟨(N,(0:Int),(a0.length:Int)),h9⟩ [] ?_
  rintro ⟨⟨n_,v3,v4⟩,h9⟩ _ A3 X3 _
  rcases n_ with _|n12
  ·rw [l8.eq_1] at h9
   cases h9
  ·replace h9:=(l8.eq_2 _ _ _ _ _ _ _).symm.trans h9
   refine j3.seqQ fun _ A4 X4 _=>?_
   refine j5 hn ?_
   refine C8 hn ?_
   refine G8 h9 (fun hb13 h9=>?_) (fun hb13 h9=>?_)
   ·refine D7 hn ?_
    refine A4 _ _ ?_
    obtain ⟨o17,h16,h9⟩:=w9 h9
    refine jk (ι:={ s // o17=s }) hn (fun s=>[(9,.int s.1.1),(10,.int s.1.2)]) (fun s=>[]) [(0,_),(1,_),(2,_),(8,_)] [] (fun _ A5 _ _=>?_) ?_
    ·refine j3.blkQ fun _ A6 _ _ _=>?_
     refine j5 hn ?_
     refine Or.inr ?_
     obtain ⟨hg18,h16⟩:=aH4 h16
     refine bN9 hg18 ?_
     refine And.intro rfl ?_
     refine And.intro rfl ?_
     obtain ⟨hg19,h16⟩:=aH4 h16
     refine bN9 hg19 ?_
     refine j5 hn ?_
     obtain ⟨x20,hx21,h16⟩:=w9 h16
     refine aQ3 hx21 ?_
     obtain ⟨r22,hr23,h16⟩:=w9 h16
     show p9 Try.prog _ _ _ _
     refine cA (hg2 _ _ _ hr23) ?_
     obtain ⟨o27,h26,h16⟩:=w9 h16
     refine jk (ι:={ s // o27=s }) hn (fun s=>[(9,.int s.1.1),(10,.int s.1.2)]) (fun s=>[]) [(0,_),(1,_),(2,_),(8,_)] [] (fun _ A7 _ _=>?_) ?_
     ·refine C8 hn ?_
      refine G8 h26 (fun hb28 h26=>?_) (fun hb28 h26=>?_)
      ·refine kp [(0,_),(1,_),(2,_),(8,_),(10,_),(11,_)] [] ?_
       refine G5 hn ?_
       refine Or.inr ?_
       refine A7 _ _ ?_
       exact jn ⟨_,sj h26⟩ []
      refine kp [(0,_),(1,_),(2,_),(8,_),(9,_),(11,_)] [] ?_
      refine G5 hn ?_
      refine A7 _ _ ?_
      exact jn ⟨_,sj h26⟩ []
     rintro ⟨⟨v24,v25⟩,rfl⟩
     refine A6 _ _ ?_
     refine A5 _ _ ?_
     exact jn ⟨_,sj h16⟩ []
    rintro ⟨⟨v14,v15⟩,rfl⟩
    refine A3 _ _ ?_
    exact jn ⟨(n12,v14,v15),h9⟩ [] (by show n12 < n12+1; omega)
   refine I6 hn ?_
   refine X4 _ _ _ ?_
   refine X3 _ _ _ ?_
   refine E2 _ _ ?_
   refine A1 _ _ ?_
   exact jn ⟨_,sj h9⟩ []
 rintro ⟨v7,hv_⟩
 replace hv_:=hv_.symm
 subst hv_
 refine A0 _ _ ?_
 refine j3.seqQ fun _ A8 _ _=>?_
 obtain ⟨o31,h30,h⟩:=w9 h
 refine jk (ι:={ s // o31=s }) hn (fun s=>[(6,.int v7),(7,.bool s.1)]) (fun s=>[]) [] [] (fun _ A9 _ _=>?_) ?_
 ·refine G5 hn ?_
  refine G8 h30 (fun hb32 h30=>?_) (fun hb32 h30=>?_)
  ·refine l7 hb32 ?_
   refine l7 hb32 ?_
   refine l7 hb32 ?_
   obtain ⟨x33,hx34,h30⟩:=w9 h30
   refine aQ3 hx34 ?_
   refine l7 hb32 ?_
   refine l7 hb32 ?_
   refine l7 hb32 ?_
   obtain ⟨r35,hr36,h30⟩:=w9 h30
   show p9 Try.prog _ _ _ _
   refine cA (hg2 _ _ _ hr36) ?_
   refine l7 hb32 ?_
   refine l7 hb32 ?_
   refine A9 _ _ ?_
   exact jn ⟨_,sj h30⟩ []
  refine l5 hb32 ?_
  refine l5 hb32 ?_
  refine l5 hb32 ?_
  refine l5 hb32 ?_
  refine l5 hb32 ?_
  refine l5 hb32 ?_
  refine l5 hb32 ?_
  refine l5 hb32 ?_
  refine A9 _ _ ?_
  exact jn ⟨_,sj h30⟩ []
 rintro ⟨v29,hv_⟩
 replace hv_:=hv_.symm
 subst hv_
 refine A8 _ _ ?_
 refine got hn ?_
 obtain rfl:=Option.some.inj h
 exact ⟨[],_,fm⟩

/- cmp.isNaN[string] -/
set_option maxRecDepth 100000 in
set_option maxHeartbeats 8000000 in
theorem Z8 (N:Nat) (a0:ByteArray) (r:Bool) (h:cmp_isNaN_string N a0=some r):Spec Try.prog 120 [] [.str a0] (.bool r) [] []:=by
 refine Spec.of J2 Try.func120 rfl Try.ntmps120 (by kernel_rfl) rfl rfl rfl fun Γ hn=>?_
 unfold cmp_isNaN_string at h
 refine j5 hn ?_
 refine j5 hn ?_
 refine got hn ?_
 obtain rfl:=Option.some.inj h
 exact ⟨[],_,fm⟩

/- cmp.Compare[string] -/
set_option maxRecDepth 100000 in
set_option maxHeartbeats 8000000 in
theorem aI9 (N:Nat) (a0:ByteArray) (a1:ByteArray) (r:Int) (h:U9 N a0 a1=some r):Spec Try.prog 91 [] [.str a0,.str a1] (.int r) [] []:=by
 refine Spec.of J2 Try.func91 rfl Try.ntmps91 (by kernel_rfl) rfl rfl rfl fun Γ hn=>?_
 unfold U9 at h
 refine j5 hn ?_
 refine j5 hn ?_
 obtain ⟨r1,hr2,h⟩:=w9 h
 show p9 Try.prog _ _ _ _
 refine cA (Z8 N a0 r1 hr2) ?_
 refine j5 hn ?_
 obtain ⟨r3,hr4,h⟩:=w9 h
 show p9 Try.prog _ _ _ _
 refine cA (Z8 N a1 r3 hr4) ?_
 refine j3.seqQ fun _ A0 _ R0=>?_
 refine j5 hn ?_
 refine C8 hn ?_
 refine G8 h (fun hb5 h=>?_) (fun hb5 h=>?_)
 ·refine j3.seqQ fun _ A1 _ R1=>?_
  refine j5 hn ?_
  refine C8 hn ?_
  refine G8 h (fun hb6 h=>?_) (fun hb6 h=>?_)
  ·refine j5 hn ?_
   refine got hn ?_
   refine R1 _ _ ?_
   refine R0 _ _ ?_
   obtain rfl:=Option.some.inj h
   exact ⟨[],_,fm⟩
  refine D7 hn ?_
  refine A1 _ _ ?_
  refine j5 hn ?_
  refine got hn ?_
  refine R0 _ _ ?_
  obtain rfl:=Option.some.inj h
  exact ⟨[],_,fm⟩
 refine D7 hn ?_
 refine A0 _ _ ?_
 refine j3.seqQ fun _ A2 _ R2=>?_
 refine j5 hn ?_
 refine C8 hn ?_
 refine G8 h (fun hb7 h=>?_) (fun hb7 h=>?_)
 ·refine j5 hn ?_
  refine got hn ?_
  refine R2 _ _ ?_
  obtain rfl:=Option.some.inj h
  exact ⟨[],_,fm⟩
 refine D7 hn ?_
 refine A2 _ _ ?_
 refine j3.seqQ fun _ A3 _ R3=>?_
 refine j5 hn ?_
 refine C8 hn ?_
 refine G8 h (fun hb8 h=>?_) (fun hb8 h=>?_)
 ·refine j5 hn ?_
  refine got hn ?_
  refine R3 _ _ ?_
  obtain rfl:=Option.some.inj h
  exact ⟨[],_,fm⟩
 refine D7 hn ?_
 refine A3 _ _ ?_
 refine j3.seqQ fun _ A4 _ R4=>?_
 refine j5 hn ?_
 refine C8 hn ?_
 refine G8 h (fun hb9 h=>?_) (fun hb9 h=>?_)
 ·refine kp [] [] ?_
  refine j5 hn ?_
  refine got hn ?_
  refine R4 _ _ ?_
  obtain rfl:=Option.some.inj h
  exact ⟨[],_,fm⟩
 refine D7 hn ?_
 refine A4 _ _ ?_
 refine kp [] [] ?_
 refine j5 hn ?_
 refine got hn ?_
 obtain rfl:=Option.some.inj h
 exact ⟨[],_,fm⟩

/- class.order -/
set_option maxRecDepth 100000 in
set_option maxHeartbeats 8000000 in
theorem aT9 (N:Nat) (a0:Me) (a1:ByteArray) (r:Int) (h:aB2 N a0 a1=some r):Spec Try.prog 64 [] [.agg (eMe a0),.str a1] (.int r) [] []:=by
 refine Spec.of J2 Try.func64 rfl Try.ntmps64 (by kernel_rfl) rfl rfl rfl fun Γ hn=>?_
 unfold aB2 at h
 refine j5 hn ?_
 refine j5 hn ?_
 obtain ⟨r1,hr2,h⟩:=w9 h
 show p9 Try.prog _ _ _ _
 refine cA (aI9 N a0.name a1 r1 hr2) ?_
 refine got hn ?_
 obtain rfl:=Option.some.inj h
 exact ⟨[],_,fm⟩

/- class.Find -/
set_option maxRecDepth 100000 in
set_option maxHeartbeats 8000000 in
theorem aK7 (N:Nat) (a0:Wd) (a1:Int) (a2:ByteArray) (r:(Int×Int)) (h:aC6 N a0 a1 a2=some r):Spec Try.prog 30 [] [.agg (eWd a0),.int a1,.str a2] (.tup [.int r.1,.int r.2]) [] []:=by
 refine Spec.of J2 Try.func30 rfl Try.ntmps30 (by kernel_rfl) rfl rfl rfl fun Γ hn=>?_
 unfold aC6 at h
 refine j5 hn ?_
 refine j3.seqQ fun _ A0 _ R0=>?_
 refine j5 hn ?_
 obtain ⟨o6,h7,h⟩:=w9 h
 refine jk (ι:={ s // o6=Ctl.next s }) hn (fun s=>[]) (fun s=>[]) [] [] (fun _ A1 _ R1=>?_) ?_
 ·refine j3.blkQ fun _ _ E2 _ R2=>?_
  refine lq (ι:={ q:(Nat×Int×Int) // S9 N a0 a2 q.1 q.2.1 q.2.2=some o6 }) hn (fun q=>[(1,.int q.1.2.1),(8,.int q.1.2.2)]) (fun q=>[]) (fun q=>q.1.1) [(2,_),(3,_)] [(3,_)] ⟨(N,a1,(0:Int)),h7⟩ [] ?_
  rintro ⟨⟨n_,v2,v3⟩,h7⟩ _ A3 X3 R3
  rcases n_ with _|n10
  ·rw [S9.eq_1] at h7
   cases h7
  ·replace h7:=(S9.eq_2 _ _ _ _ _ _).symm.trans h7
   refine j3.seqQ fun _ A4 X4 _=>?_
   refine j3.seqQ fun _ A5 _ _=>?_
   obtain ⟨o13,h12,h7⟩:=w9 h7
   refine jk (ι:={ s // o13=s }) hn (fun s=>[(26,.bool s.1)]) (fun s=>[]) [(1,_),(2,_),(3,_),(8,_)] [(3,_)] (fun _ A6 _ _=>?_) ?_
   ·refine G5 hn ?_
    refine G8 h12 (fun hb14 h12=>?_) (fun hb14 h12=>?_)
    ·refine l7 hb14 ?_
     refine l7 hb14 ?_
     refine l7 hb14 ?_
     refine V9 (fun _=>?_)
     refine l7 hb14 ?_
     refine l7 hb14 ?_
     refine G8 h12 (fun hb16 h12=>?_) (fun hb16 h12=>?_)
     ·refine l7 hb16 ?_
      refine l7 hb16 ?_
      refine l7 hb16 ?_
      refine V9 (fun _=>?_)
      refine l7 hb16 ?_
      refine l7 hb16 ?_
      refine A6 _ _ ?_
      exact jn ⟨_,sj h12⟩ []
     refine l5 hb16 ?_
     refine l5 hb16 ?_
     refine l5 hb16 ?_
     refine l5 hb16 ?_
     refine l5 hb16 ?_
     refine A6 _ _ ?_
     exact jn ⟨_,sj h12⟩ []
    refine l5 hb14 ?_
    refine l5 hb14 ?_
    refine l5 hb14 ?_
    refine l5 hb14 ?_
    refine l5 hb14 ?_
    refine A6 _ _ ?_
    exact jn ⟨_,sj h12⟩ []
   rintro ⟨v11,hv_⟩
   replace hv_:=hv_.symm
   subst hv_
   refine A5 _ _ ?_
   refine C8 hn ?_
   refine G8 h7 (fun hb18 h7=>?_) (fun hb18 h7=>?_)
   ·refine D7 hn ?_
    refine A4 _ _ ?_
    refine j3.seqQ fun _ A7 _ R7=>?_
    refine j3.blkQ fun _ A8 _ _ R8=>?_
    refine j3.seqQ fun _ A9 _ R9=>?_
    refine j5 hn ?_
    obtain ⟨x19,hx20,h7⟩:=w9 h7
    refine aQ3 hx20 ?_
    obtain ⟨r21,hr22,h7⟩:=w9 h7
    show p9 Try.prog _ _ _ _
    refine cA (K5 N x19.methods a2 (fun x0_ x1_=>aB2 N x0_ x1_) (fun x0_ x1_ y_ hy_=>aT9 N x0_ x1_ y_ hy_) r21 hr22) ?_
    refine kp [(1,_),(2,_),(3,_),(8,_),(9,_),(10,_)] [(3,_)] ?_
    refine j5 hn ?_
    refine C8 hn ?_
    refine G8 h7 (fun hb23 h7=>?_) (fun hb23 h7=>?_)
    ·refine j5 hn ?_
     refine got hn ?_
     refine R9 _ _ ?_
     refine R8 _ _ ?_
     refine R7 _ _ ?_
     refine R3 _ _ ?_
     refine R2 _ _ ?_
     refine R1 _ _ ?_
     refine R0 _ _ ?_
     obtain rfl:=Option.some.inj h7
     obtain rfl:=Option.some.inj h
     exact ⟨[],_,fm⟩
    refine D7 hn ?_
    refine A9 _ _ ?_
    refine G5 hn ?_
    obtain ⟨x24,hx25,h7⟩:=w9 h7
    refine aQ3 hx25 ?_
    refine A8 _ _ ?_
    refine A7 _ _ ?_
    refine G5 hn ?_
    refine Or.inr ?_
    refine A3 _ _ ?_
    exact jn ⟨(n10,x24.super,(wr (v3+(1:Int)))),h7⟩ [] (by show n10 < n10+1; omega)
   refine I6 hn ?_
   refine X4 _ _ _ ?_
   refine X3 _ _ _ ?_
   refine E2 _ _ ?_
   refine A1 _ _ ?_
   exact jn ⟨_,sj h7⟩ []
 rintro ⟨⟨⟩,rfl⟩
 refine A0 _ _ ?_
 refine j5 hn ?_
 refine got hn ?_
 obtain rfl:=Option.some.inj h
 exact ⟨[],_,fm⟩

/- cells.Find -/
set_option maxRecDepth 100000 in
set_option maxHeartbeats 8000000 in
theorem aX2 (N:Nat) (a0:(List Ce)) (a1:Wd) (a2:St) (a3:Int) (a4:ByteArray) (r:((List Ce)×Int×Int×Bool)) (h:aJ8 N a0 a1 a2 a3 a4=some r):Spec Try.prog 39 [] [.sl 6 (List.map X0 a0),.agg (eWd a1),.agg (eSt a2),.int a3,.str a4] (.tup [.own 0,.int r.2.1,.int r.2.2.1,.bool r.2.2.2]) [(0,.row 6 (List.map X0 r.1) 31)] [0]:=by
 refine Spec.of J2 Try.func39 rfl Try.ntmps39 (by kernel_rfl) rfl rfl rfl fun Γ hn=>?_
 unfold aJ8 at h
 refine j5 hn ?_
 refine j3.seqQ fun _ A0 _ R0=>?_
 refine j5 hn ?_
 obtain ⟨r1,hr2,h⟩:=w9 h
 show p9 Try.prog _ _ _ _
 refine cA (V4 N a0 a2 a1.epoch a3 r1 hr2) ?_
 refine j3.seqQ fun _ A1 _ _=>?_
 obtain ⟨o5,h4,h⟩:=w9 h
 refine jk (ι:={ s // o5=s }) hn (fun s=>[(33,.bool s.1)]) (fun s=>[]) [(0,_),(3,_),(4,_),(6,_),(7,_),(14,_)] [(6,_),(7,_)] (fun _ A2 _ _=>?_) ?_
 ·refine kp [(0,_),(3,_),(4,_),(6,_),(7,_),(14,_)] [(6,_),(7,_)] ?_
  refine G5 hn ?_
  refine G8 h4 (fun hb6 h4=>?_) (fun hb6 h4=>?_)
  ·refine l7 hb6 ?_
   refine l7 hb6 ?_
   refine l7 hb6 ?_
   refine V9 (fun _=>?_)
   refine l7 hb6 ?_
   refine l7 hb6 ?_
   refine A2 _ _ ?_
   exact jn ⟨_,sj h4⟩ []
  refine l5 hb6 ?_
  refine l5 hb6 ?_
  refine l5 hb6 ?_
  refine l5 hb6 ?_
  refine l5 hb6 ?_
  refine A2 _ _ ?_
  exact jn ⟨_,sj h4⟩ []
 rintro ⟨v3,hv_⟩
 replace hv_:=hv_.symm
 subst hv_
 refine A1 _ _ ?_
 refine C8 hn ?_
 refine G8 h (fun hb8 h=>?_) (fun hb8 h=>?_)
 ·refine j5 hn ?_
  obtain ⟨r9,hr10,h⟩:=w9 h
  show p9 Try.prog _ _ _ _
  refine cA (aK7 N a1 r1 a4 r9 hr10) ?_
  refine j5 hn ?_
  obtain ⟨r11,hr12,h⟩:=w9 h
  show p9 Try.prog _ _ _ _
  refine cA ((aD1 N a0 r11 hr12).sw 0 42) ?_
  refine got hn ?_
  refine R0 _ _ ?_
  obtain rfl:=Option.some.inj h
  exact ⟨[(0,42)],_,fm⟩
 refine D7 hn ?_
 refine A0 _ _ ?_
 refine j5 hn ?_
 obtain ⟨r13,hr14,h⟩:=w9 h
 show p9 Try.prog _ _ _ _
 refine cA (aK7 N a1 a3 a4 r13 hr14) ?_
 refine j3.seqQ fun _ A3 _ R3=>?_
 refine j5 hn ?_
 refine C8 hn ?_
 refine G8 h (fun hb15 h=>?_) (fun hb15 h=>?_)
 ·refine kp [(0,_),(17,_),(18,_)] [] ?_
  refine j5 hn ?_
  obtain ⟨r16,hr17,h⟩:=w9 h
  show p9 Try.prog _ _ _ _
  refine cA ((aD1 N a0 r16 hr17).sw 0 55) ?_
  refine got hn ?_
  refine R3 _ _ ?_
  obtain rfl:=Option.some.inj h
  exact ⟨[(0,55)],_,fm⟩
 refine D7 hn ?_
 refine A3 _ _ ?_
 refine kp [(0,_),(3,_),(6,_),(7,_),(17,_),(18,_)] [(6,_),(7,_)] ?_
 refine j5 hn ?_
 obtain ⟨r18,hr19,h⟩:=w9 h
 show p9 Try.prog _ _ _ _
 refine cA ((aD3 N a0 a2 a1.epoch a3 r13.1 r18 hr19).sw 0 64) ?_
 refine got hn ?_
 obtain rfl:=Option.some.inj h
 exact ⟨[(0,64)],_,fm⟩

/- qclaw6.alive -/
set_option maxRecDepth 100000 in
set_option maxHeartbeats 8000000 in
theorem aR8 (N:Nat) (r:Bool) (h:Z4 N =some r):Spec Try.prog 10 [] [] (.bool r) [] []:=by
 refine Spec.of J2 Try.func10 rfl Try.ntmps10 (by kernel_rfl) rfl rfl rfl fun Γ hn=>?_
 unfold Z4 at h
 refine j5 hn ?_
 refine j5 hn ?_
 refine j5 hn ?_
 obtain ⟨r1,hr2,h⟩:=w9 h
 show p9 Try.prog _ _ _ _
 refine cA ((aD3 N [] (⟨(4:Int),(⟨#[109]⟩:ByteArray),(2:Int)⟩:St) (3:Int) (5:Int) (4:Int) r1 hr2).sw 0 9) ?_
 refine j3.seqQ fun _ A0 _ _=>?_
 refine god hn (by kernel_rfl) ?_
 obtain ⟨r3,hr4,h⟩:=w9 h
 show p9 Try.prog _ _ _ _
 refine cA (aW8 N  r3 hr4) ?_
 obtain ⟨r5,hr6,h⟩:=w9 h
 show p9 Try.prog _ _ _ _
 refine cA ((aX2 N [] r3 (⟨(4:Int),(⟨#[109]⟩:ByteArray),(2:Int)⟩:St) (3:Int) (⟨#[43]⟩:ByteArray) r5 hr6).sw 0 13) ?_
 refine A0 _ _ ?_
 refine j3.seqQ fun _ A1 _ _=>?_
 obtain ⟨o9,h8,h⟩:=w9 h
 refine jk (ι:={ s // o9=s }) hn (fun s=>[(0,.bool s.1)]) (fun s=>[]) [] [] (fun _ A2 _ _=>?_) ?_
 ·refine j3.fzAll 9 rfl ?_
  refine j3.sub (ts2:=[(1,.ptr 1 0),(2,.sl 6 (List.map X0 r1)),(3,.own 13),(4,.int r5.2.1),(5,.int r5.2.2.1),(6,.bool r5.2.2.2)]) (os2:=[(1,.box [.int (4:Int),.str (⟨#[109]⟩:ByteArray),.int (2:Int)] 23),(13,.row 6 (List.map X0 r5.1) 31)]) [] ⟨⟨rfl,(by repeat (first|exact trivial|exact rfl|(refine And.intro ?_ ?_))),rfl,rfl,rfl,rfl,trivial⟩,⟨rfl,rfl,trivial⟩,rfl,rfl⟩ (by rw [hn]; rfl) ?_
  refine G5 hn ?_
  refine V9 (fun _=>?_)
  refine G8 h8 (fun hb11 h8=>?_) (fun hb11 h8=>?_)
  ·refine l7 hb11 ?_
   refine l7 hb11 ?_
   obtain ⟨r12,hr13,h8⟩:=w9 h8
   show p9 Try.prog _ _ _ _
   refine cA (V4 N r1 (⟨(4:Int),(⟨#[109]⟩:ByteArray),(2:Int)⟩:St) (3:Int) (5:Int) r12 hr13) ?_
   refine l7 hb11 ?_
   refine l7 hb11 ?_
   refine G8 h8 (fun hb14 h8=>?_) (fun hb14 h8=>?_)
   ·refine l7 hb14 ?_
    refine l7 hb14 ?_
    obtain ⟨r15,hr16,h8⟩:=w9 h8
    show p9 Try.prog _ _ _ _
    refine cA (V4 N r1 (⟨(4:Int),(⟨#[109]⟩:ByteArray),(2:Int)⟩:St) (2:Int) (5:Int) r15 hr16) ?_
    refine l7 hb14 ?_
    refine l7 hb14 ?_
    refine G8 h8 (fun hb17 h8=>?_) (fun hb17 h8=>?_)
    ·refine l7 hb17 ?_
     obtain ⟨r18,hr19,h8⟩:=w9 h8
     show p9 Try.prog _ _ _ _
     refine cA ((aD1 N r1 r18 hr19).sw 0 35) ?_
     refine l7 hb17 ?_
     refine V9 (fun _=>?_)
     refine l7 hb17 ?_
     refine l7 hb17 ?_
     refine G8 h8 (fun hb21 h8=>?_) (fun hb21 h8=>?_)
     ·refine l7 hb21 ?_
      refine V9 (fun _=>?_)
      refine l7 hb21 ?_
      refine l7 hb21 ?_
      refine G8 h8 (fun hb23 h8=>?_) (fun hb23 h8=>?_)
      ·refine l7 hb23 ?_
       refine l7 hb23 ?_
       refine G8 h8 (fun hb24 h8=>?_) (fun hb24 h8=>?_)
       ·refine l7 hb24 ?_
        refine l7 hb24 ?_
        refine G8 h8 (fun hb25 h8=>?_) (fun hb25 h8=>?_)
        ·refine l7 hb25 ?_
         refine l7 hb25 ?_
         refine A2 _ _ ?_
         exact jn ⟨_,sj h8⟩ []
        refine l5 hb25 ?_
        refine l5 hb25 ?_
        refine A2 _ _ ?_
        exact jn ⟨_,sj h8⟩ []
       refine l5 hb24 ?_
       refine l5 hb24 ?_
       refine A2 _ _ ?_
       exact jn ⟨_,sj h8⟩ []
      refine l5 hb23 ?_
      refine l5 hb23 ?_
      refine A2 _ _ ?_
      exact jn ⟨_,sj h8⟩ []
     refine l5 hb21 ?_
     refine l5 hb21 ?_
     refine l5 hb21 ?_
     refine A2 _ _ ?_
     exact jn ⟨_,sj h8⟩ []
    refine l5 hb17 ?_
    refine l5 hb17 ?_
    refine l5 hb17 ?_
    refine l5 hb17 ?_
    refine A2 _ _ ?_
    exact jn ⟨_,sj h8⟩ []
   refine l5 hb14 ?_
   refine l5 hb14 ?_
   refine l5 hb14 ?_
   refine l5 hb14 ?_
   refine A2 _ _ ?_
   exact jn ⟨_,sj h8⟩ []
  refine l5 hb11 ?_
  refine l5 hb11 ?_
  refine l5 hb11 ?_
  refine l5 hb11 ?_
  refine A2 _ _ ?_
  exact jn ⟨_,sj h8⟩ []
 rintro ⟨v7,hv_⟩
 replace hv_:=hv_.symm
 subst hv_
 refine A1 _ _ ?_
 refine got hn ?_
 obtain rfl:=Option.some.inj h
 exact ⟨[],_,fm⟩

/- qclaw6.CellsFew -/
theorem a98 {N:Nat} {a0:St} {a1:Int} {l:List Ce} {n:Int}:∀{q:List (Int×Bool)},I9 N a0 a1 l n q=some ()→∀p∈q,aT2 N a0 a1 l n p.1=some ()
  |[],_,p,hp=>by cases hp
  |x::q,h,p,hp=>by
    unfold I9 at h
    obtain ⟨u,h1,h2⟩:=w9 h
    rcases List.mem_cons.1 hp with rfl|hp
    ·exact h1
    ·exact a98 h2 p hp
theorem bM1 {N:Nat} {a0:St} {a1:Int} {l:List Ce} {n k:Int} (h:aT2 N a0 a1 l n k=some ()):∃g,O3 N l a0 a1 k=some g∧((!decide (g=(bif decide (n≤3) then k else (-1))))=false∨(decide (0≤k)=false)):=by
  unfold aT2 at h
  obtain ⟨g,h1,h2⟩:=w9 h
  refine ⟨g,h1,?_⟩
  cases e1:(!decide (g=(bif decide (n≤3) then k else (-1)))) with
  |false=>exact Or.inl rfl
  |true=>
    cases e2:decide (0≤k) with
    |false=>exact Or.inr rfl
    |true=>rw [e1,e2] at h2; cases h2
theorem bQ5 {m:Nat} {So:Os} (h:(So.all fun p=>!(Nat.beq p.1 m) && V5 [m] p.2.ids)=true):∀id o,lk So id=some o→id≠m∧m∉o.ids:=fun id o hl=>by
  have h1:=List.all_eq_true.1 h _ (H8 hl)
  simp only [Bool.and_eq_true] at h1
  refine ⟨fun e=>?_,M6 h1.2 m (by simp)⟩
  have h2:=h1.1
  rw [e] at h2
  simp at h2
set_option maxRecDepth 100000 in
set_option maxHeartbeats 8000000 in
theorem aL4 (N:Nat) (a0:St) (a1:Int) (a2:(List Int)) (r:Bool) (h:U3 N a0 a1 a2=some r):Spec Try.prog 3 [] [.agg (eSt a0),.int a1,.sl 1 (List.map bC0 a2)] (.bool r) [] []:=by
 refine Spec.of J2 Try.func3 rfl Try.ntmps3 (by kernel_rfl) rfl rfl rfl fun Γ hn=>?_
 unfold U3 at h
 refine j5 hn ?_
 refine j3.seqQ fun _ A0 _ R0=>?_
 refine j5 hn ?_
 obtain ⟨r1,hr2,h⟩:=w9 h
 show p9 Try.prog _ _ _ _
 refine cA (aR8 N  r1 hr2) ?_
 refine C8 hn ?_
 refine G8 h (fun hb3 h=>?_) (fun hb3 h=>?_)
 ·refine j5 hn ?_
  refine got hn ?_
  refine R0 _ _ ?_
  obtain rfl:=Option.some.inj h
  exact ⟨[],_,fm⟩
 refine D7 hn ?_
 refine A0 _ _ ?_
 refine j5 hn ?_
 refine j5 hn ?_
 refine j3.seqQ fun _ A1 _ R1=>?_
 refine j5 hn ?_
 refine V9 (fun hl4=>?_)
 refine j3.nilrow 7 207 6 31 rfl rfl rfl ?_
 obtain ⟨o10,h11,h⟩:=w9 h
 refine jk (ι:={ s // o10=Ctl.next s }) hn (fun s=>[]) (fun s=>[]) [] [] (fun _ A2 _ R2=>?_) ?_
 ·refine j3.blkQ fun _ _ E3 _ R3=>?_
  refine lq (ι:={ q:((List Int)×Nat×(List Ce)×(List (Int×Bool))) // q.1=a2.drop q.2.1∧I4 N a0 a1 q.1 q.2.1 q.2.2.1 q.2.2.2=some o10 }) hn (fun q=>[(18,.int (q.1.2.1:Int))]) (fun q=>[(15,.mapo (List.map aO4 q.1.2.2.2)),(207,.row 6 (List.map X0 q.1.2.2.1) 31)]) (fun q=>q.1.1.length) [(1,_),(3,_),(7,_),(8,_),(16,_),(17,_)] [(3,_)] ⟨(a2,0,([]:List Ce),([]:(List (Int×Bool)))),rfl,h11⟩ [] ?_
  rintro ⟨⟨rest_,k5,v6,v7⟩,hd13,h11⟩ _ A4 X4 R4
  replace hd13:rest_=a2.drop k5:=hd13
  rcases rest_ with _|⟨x15,rest12⟩
  ·have hlt17:=aI5 hd13
   replace h11:=(I4.eq_1 _ _ _ _ _ _).symm.trans h11
   refine j5 hn ?_
   refine j3.seqQ fun _ _ X5 _=>?_
   refine C8 hn ?_
   refine l5 hlt17 ?_
   refine I6 hn ?_
   refine X5 _ _ _ ?_
   refine X4 _ _ _ ?_
   refine E3 _ _ ?_
   refine A2 _ _ ?_
   exact jn ⟨_,sj h11⟩ []
  ·obtain ⟨hx16,hd2,hlt17⟩:=aE2 hd13
   replace h11:=(I4.eq_2 _ _ _ _ _ _ _ _).symm.trans h11
   refine j5 hn ?_
   refine j3.seqQ fun _ A6 _ _=>?_
   refine C8 hn ?_
   refine l7 hlt17 ?_
   refine D7 hn ?_
   refine A6 _ _ ?_
   refine j3.seqQ fun _ A7 _ R7=>?_
   refine j3.blkQ fun _ A8 _ _ R8=>?_
   refine j5 hn ?_
   refine aZ7 hx16 ?_
   refine j3.fzAll 207 rfl ?_
   refine kp [(1,_),(3,_),(7,_),(8,_),(10,_),(16,_),(17,_),(18,_)] [(3,_),(15,_)] ?_
   refine j5 hn ?_
   obtain ⟨r18,hr19,h11⟩:=w9 h11
   show p9 Try.prog _ _ _ _
   refine cA ((aD3 N v6 a0 a1 x15 x15 r18 hr19).sw 0 27) ?_
   refine j5 hn ?_
   obtain ⟨hg20,h11⟩:=aH4 h11
   refine bR4 rfl rfl hg20 ?_
   refine j3.seqQ fun _ A9 _ R9=>?_
   refine j3.seqQ fun _ A10 _ _=>?_
   obtain ⟨o23,h22,h11⟩:=w9 h11
   refine jk (ι:={ s // o23=s }) hn (fun s=>[(40,.bool s.1)]) (fun s=>[]) [(1,_),(3,_),(7,_),(8,_),(16,_),(17,_),(18,_)] [(3,_),(15,_),(27,_)] (fun _ A11 _ _=>?_) ?_
   ·refine G5 hn ?_
    refine V9 (fun _=>?_)
    refine G8 h22 (fun hb25 h22=>?_) (fun hb25 h22=>?_)
    ·refine l7 hb25 ?_
     refine l7 hb25 ?_
     refine l7 hb25 ?_
     refine l7 hb25 ?_
     refine l7 hb25 ?_
     refine l7 hb25 ?_
     refine A11 _ _ ?_
     exact jn ⟨_,sj h22⟩ []
    refine l5 hb25 ?_
    obtain ⟨x26,hx27,h22⟩:=w9 h22
    refine bJ0 hx27 ?_
    refine l5 hb25 ?_
    refine l5 hb25 ?_
    refine ldM (aF9 hx27).2 ?_
    refine l5 hb25 ?_
    refine V9 (fun _=>?_)
    refine l5 hb25 ?_
    refine l5 hb25 ?_
    refine A11 _ _ ?_
    exact jn ⟨_,sj h22⟩ []
   rintro ⟨v21,hv_⟩
   replace hv_:=hv_.symm
   subst hv_
   refine A10 _ _ ?_
   refine C8 hn ?_
   refine G8 h11 (fun hb29 h11=>?_) (fun hb29 h11=>?_)
   ·refine j5 hn ?_
    refine got hn ?_
    refine R9 _ _ ?_
    refine R8 _ _ ?_
    refine R7 _ _ ?_
    refine R4 _ _ ?_
    refine R3 _ _ ?_
    refine R2 _ _ ?_
    refine R1 _ _ ?_
    obtain rfl:=Option.some.inj h11
    obtain rfl:=Option.some.inj h
    exact ⟨[],_,fm⟩
   refine D7 hn ?_
   refine A9 _ _ ?_
   obtain ⟨u30,h31,h11⟩:=w9 h11
   refine kp [(8,_),(1,_),(3,_),(7,_),(16,_),(17,_),(18,_)] [(15,_),(3,_),(27,_)] ?_
   refine j3.rangeFew hn ((J2 _ _ (rfl:lk tab 27=some _)).map_ rfl) ⟨rfl,rfl,rfl⟩ ⟨rfl,rfl,rfl⟩ ⟨rfl,rfl,rfl⟩ ⟨rfl,rfl,rfl⟩ ⟨rfl,rfl,rfl⟩ ⟨rfl,rfl,rfl⟩ ⟨rfl,rfl,rfl⟩ ⟨rfl,rfl,rfl⟩ ⟨rfl,rfl,rfl⟩ ⟨rfl,rfl,rfl⟩ ⟨rfl,rfl,rfl⟩ (by decide) (fun t x hl=>U5 (nw:=[15]) (by rfl) t x hl 15 (by simp)) (bQ5 (by rfl)) (fun Γ' hn' p hp vm vi n hnl hnm=>?_) ?_
   ·obtain ⟨⟨k,b⟩,hk,rfl⟩:=List.mem_map.1 hp
    obtain ⟨g,hg,hgk⟩:=bM1 (a98 h31 _ hk)
    have hn2:n=(N7 x15 true v7).length:=by rw [hnl,List.length_map]
    rw [←hn2] at hgk
    rcases Bool.eq_false_or_eq_true (decide ((n:Int)≤3)) with hq|hq
    ·rw [hq] at hgk
     refine C8 hn' ?_
     refine l7 hq ?_
     refine G5 hn' ?_
     show j3 Try.prog Γ' _ _ _ _
     refine kp [(12,.int k),(11,.int k),(42,_),(8,_),(1,_),(3,_),(7,_),(16,_),(17,_),(18,_)] [(3,_),(27,_)] ?_
     refine j5 hn' ?_
     show p9 Try.prog _ _ _ _
     refine cL (V4 N r18 a0 a1 k g hg) ?_
     rcases Bool.eq_false_or_eq_true (!decide (g=k)) with hy|hy
     ·have hz:decide (0≤k)=false:=hgk.resolve_left (by rw [show (!decide (g=bif true then k else (-1)))=true from hy]; decide)
      refine l7 hy ?_
      refine l7 hy ?_
      refine l7 hy ?_
      refine C8 hn' ?_
      refine l5 hz ?_
      refine D7 hn' ?_
      show I8 Γ' _ _ _
      exact jn () []
     ·refine l5 hy ?_
      refine l5 hy ?_
      refine l5 hy ?_
      refine C8 hn' ?_
      refine D7 hn' ?_
      show I8 Γ' _ _ _
      exact jn () []
    ·rw [hq] at hgk
     refine C8 hn' ?_
     refine l5 hq ?_
     refine D7 hn' ?_
     show j3 Try.prog Γ' _ _ _ _
     refine kp [(12,.int (-1)),(11,.int k),(42,_),(8,_),(1,_),(3,_),(7,_),(16,_),(17,_),(18,_)] [(3,_),(27,_)] ?_
     refine j5 hn' ?_
     show p9 Try.prog _ _ _ _
     refine cL (V4 N r18 a0 a1 k g hg) ?_
     rcases Bool.eq_false_or_eq_true (!decide (g=(-1))) with hy|hy
     ·have hz:decide (0≤k)=false:=hgk.resolve_left (by rw [show (!decide (g=bif false then k else (-1)))=true from hy]; decide)
      refine l7 hy ?_
      refine l7 hy ?_
      refine l7 hy ?_
      refine C8 hn' ?_
      refine l5 hz ?_
      refine D7 hn' ?_
      show I8 Γ' _ _ _
      exact jn () []
     ·refine l5 hy ?_
      refine l5 hy ?_
      refine l5 hy ?_
      refine C8 hn' ?_
      refine D7 hn' ?_
      show I8 Γ' _ _ _
      exact jn () []
   refine A8 _ _ ?_
   refine A7 _ _ ?_
   refine G5 hn ?_
   refine Or.inl (And.intro (aZ9 hx16 hl4) ?_)
   refine A4 _ _ ?_
   exact jn ⟨(rest12,k5+1,r18,(N7 x15 true v7)),hd2,h11⟩ [(207,27)] (by show rest12.length < rest12.length+1; omega)
 rintro ⟨⟨⟩,rfl⟩
 refine A1 _ _ ?_
 refine j5 hn ?_
 refine got hn ?_
 obtain rfl:=Option.some.inj h
 exact ⟨[],_,fm⟩
end Go.Proofs.Ytahmeibkdhbngaa
