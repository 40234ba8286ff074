/- Walks after the mirrors. Printed by mir.py. -/
import Derived.Test.YtahmeibkdhbngaaMir
import Derived.Test.YtahmeibkdhbngaaYnew
namespace Go.Proofs.Ytahmeibkdhbngaa
open Go.RowKit
set_option linter.unusedVariables false
/- slices.Clone[[]api.Line,api.Line] -/
set_option maxRecDepth 100000 in
theorem aH3 (N:Nat) (l:List Ln) (r:List Ln) (h:M4 N l=some r):Spec Try.prog 72 [] [.sl 2 (List.map K7 l)] (.own 0) [(0,.row 2 (List.map K7 r) 91)] [0]:=by
  obtain ⟨hf,h⟩:=G5 h
  obtain rfl:=Option.some.inj h
  refine Spec.of z8 Try.func72 rfl Try.ntmps72 (by kernel_rfl) rfl rfl rfl fun Γ hn=>?_
  refine j6 hn ?_
  refine j5.seq (j5.seq (j5.ops (goo hn 1 ?_)))
  refine OOk.gh (Gh.nil 3 rfl) ?_
  rintro ⟨b,hb⟩
  refine goo hn 1 (OOk.done ?_)
  (repeat (first|refine j6 hn ?_|refine q8 hn ?_|refine L8 hn ?_|refine p8 hn ?_|refine F6 hn ?_|refine p9 hn ?_|refine got hn ?_))
  refine bG1 (fun hb1=>?_) (fun hb1=>?_)
  · have e:l=[]:=by simpa using hb hb1
    subst e
    refine j6 hn ?_
    refine j5.nilrow 2 5 2 91 rfl rfl rfl ?_
    (repeat (first|refine j6 hn ?_|refine q8 hn ?_|refine L8 hn ?_|refine p8 hn ?_|refine F6 hn ?_|refine p9 hn ?_|refine got hn ?_))
    exact ⟨[(0,5)],_,rfl,rfl,⟨rfl,trivial⟩,rfl,rfl,rfl,rfl,rfl⟩
  · (repeat (first|refine j6 hn ?_|refine q8 hn ?_|refine L8 hn ?_|refine p8 hn ?_|refine F6 hn ?_|refine p9 hn ?_|refine got hn ?_))
    refine Exists.intro [] (And.intro trivial ?_)
    refine And.intro (by have:=Nat.le_of_ble_eq_true hf; simpa using this) ?_
    refine Exists.intro (List.map K7 l) (And.intro (D8 _) ?_)
    (repeat (first|refine j6 hn ?_|refine q8 hn ?_|refine L8 hn ?_|refine p8 hn ?_|refine F6 hn ?_|refine p9 hn ?_|refine got hn ?_))
    exact ⟨[(0,7)],_,rfl,rfl,⟨rfl,trivial⟩,rfl,rfl,rfl,rfl,rfl⟩

/- cells.Own -/
set_option maxRecDepth 100000 in
set_option maxHeartbeats 8000000 in
theorem bA4 (N:Nat) (a0:(List Ce)) (r:(List Ce)) (h:aN8 N a0=some r):Spec Try.prog 40 [] [.sl 6 (List.map eCe a0)] (.own 0) [(0,.row 6 (List.map eCe r) 31)] [0]:=by
 refine Spec.of z8 Try.func40 rfl Try.ntmps40 (by kernel_rfl) rfl rfl rfl fun Γ hn=>?_
 unfold aN8 at h
 refine j6 hn ?_
 refine j6 hn ?_
 refine j5.seqQ fun _ A0 _ _=>?_
 refine j6 hn ?_
 refine D5 (fun hl1=>?_)
 refine j5.nilrow 3 203 6 31 rfl rfl rfl ?_
 obtain ⟨o6,h7,h⟩:=j4 h
 refine jk (ι:={ s // o6=s }) hn (fun s=>[]) (fun s=>[(203,.row 6 (List.map eCe s.1) 31)]) [(3,_)] [] (fun _ A1 _ _=>?_) ?_
 ·refine j5.blkQ fun _ _ E2 _ _=>?_
  refine lq (ι:={ q:((List Ce)×Nat×(List Ce)) // q.1=a0.drop q.2.1∧aB2 N q.1 q.2.1 q.2.2=some o6 }) hn (fun q=>[(8,.int (q.1.2.1:Int))]) (fun q=>[(203,.row 6 (List.map eCe q.1.2.2) 31)]) (fun q=>q.1.1.length) [(3,_),(6,_),(7,_)] [] ⟨(a0,0,([]:List Ce)),rfl,h7⟩ [] ?_
  rintro ⟨⟨rest_,k2,v3⟩,hd9,h7⟩ _ A3 X3 _
  replace hd9:rest_=a0.drop k2:=hd9
  rcases rest_ with _|⟨x11,rest8⟩
  ·have hlt13:=N9 hd9
   replace h7:=(aB2.eq_1 _ _ _).symm.trans h7
   refine j6 hn ?_
   refine j5.seqQ fun _ _ X4 _=>?_
   refine p8 hn ?_
   refine d9 hlt13 ?_
   refine F6 hn ?_
   refine X4 _ _ _ ?_
   refine X3 _ _ _ ?_
   refine E2 _ _ ?_
   refine A1 _ _ ?_
   exact jn ⟨_,sj h7⟩ []
  ·obtain ⟨hx12,hd2,hlt13⟩:=H9 hd9
   replace h7:=(aB2.eq_2 _ _ _ _ _).symm.trans h7
   refine j6 hn ?_
   refine j5.seqQ fun _ A5 _ _=>?_
   refine p8 hn ?_
   refine j3 hlt13 ?_
   refine p9 hn ?_
   refine A5 _ _ ?_
   refine j5.seqQ fun _ A6 _ _=>?_
   refine j5.blkQ fun _ A7 _ _ _=>?_
   refine j6 hn ?_
   refine aJ1 hx12 ?_
   refine j6 hn ?_
   obtain ⟨r14,hr15,h7⟩:=j4 h7
   show l8 Try.prog _ _ _ _
   refine cA ((aH3 N x11.lines r14 hr15).sw 0 14) ?_
   refine q8 hn ?_
   refine Exists.intro (List.map eCe [(⟨x11.site,x11.epoch,x11.many,r14⟩:Ce)]) (And.intro (by repeat (first|exact trivial|exact rfl|(refine And.intro ?_ ?_))) ?_)
   obtain ⟨hg16,h7⟩:=G5 h7
   refine aJ7 (l2:=[(⟨x11.site,x11.epoch,x11.many,r14⟩:Ce)]) hg16 (D8 _) ?_
   refine A7 _ _ ?_
   refine A6 _ _ ?_
   refine q8 hn ?_
   refine Or.inl (And.intro (aE3 hx12 hl1) ?_)
   refine A3 _ _ ?_
   exact jn ⟨(rest8,k2+1,(v3++[(⟨x11.site,x11.epoch,x11.many,r14⟩:Ce)])),hd2,h7⟩ [(203,19)] (by show rest8.length < rest8.length+1; omega)
 rintro ⟨v5,hv_⟩
 replace hv_:=hv_.symm
 subst hv_
 refine A0 _ _ ?_
 refine j6 hn ?_
 refine got hn ?_
 obtain rfl:=Option.some.inj h
 exact ⟨[(0,203)],_,fm⟩

/- slices.IndexFunc[[]api.Cell,api.Cell] -/
set_option maxRecDepth 100000 in
set_option maxHeartbeats 8000000 in
theorem aJ3 (N:Nat) (a0:(List Ce)) (g1:Ce→Option Bool) {K1:Nat} {c1_0:List AV} (hg1:∀x0_ y_,g1 x0_=some y_→Spec Try.prog K1 [] [.agg (eCe x0_),.fp c1_0] (.bool y_) [] []) (r:Int) (h:I6 N a0 g1=some r):Spec Try.prog 73 [] [.sl 6 (List.map eCe a0),.fn K1 [.fp c1_0]] (.int r) [] []:=by
 refine Spec.of z8 Try.func73 rfl Try.ntmps73 (by kernel_rfl) rfl rfl rfl fun Γ hn=>?_
 unfold I6 at h
 refine j6 hn ?_
 refine j5.seqQ fun _ A0 _ R0=>?_
 refine j6 hn ?_
 refine D5 (fun hl1=>?_)
 obtain ⟨o3,h4,h⟩:=j4 h
 refine jk (ι:={ s // o3=D9.next s }) hn (fun s=>[]) (fun s=>[]) [] [] (fun _ A1 _ R1=>?_) ?_
 ·refine j5.blkQ fun _ _ E2 _ R2=>?_
  refine lq (ι:={ q:((List Ce)×Nat) // q.1=a0.drop q.2∧y8 N g1 q.1 q.2=some o3 }) hn (fun q=>[(8,.int (q.1.2:Int))]) (fun q=>[]) (fun q=>q.1.1.length) [(0,_),(1,_),(7,_)] [] ⟨(a0,0),rfl,h4⟩ [] ?_
  rintro ⟨⟨rest_,k2⟩,hd6,h4⟩ _ A3 X3 R3
  replace hd6:rest_=a0.drop k2:=hd6
  rcases rest_ with _|⟨x8,rest5⟩
  ·have hlt10:=N9 hd6
   replace h4:=(y8.eq_1 _ _ _).symm.trans h4
   refine j6 hn ?_
   refine j5.seqQ fun _ _ X4 _=>?_
   refine p8 hn ?_
   refine d9 hlt10 ?_
   refine F6 hn ?_
   refine X4 _ _ _ ?_
   refine X3 _ _ _ ?_
   refine E2 _ _ ?_
   refine A1 _ _ ?_
   exact jn ⟨_,sj h4⟩ []
  ·obtain ⟨hx9,hd2,hlt10⟩:=H9 hd6
   replace h4:=(y8.eq_2 _ _ _ _ _).symm.trans h4
   refine j6 hn ?_
   refine j5.seqQ fun _ A5 _ _=>?_
   refine p8 hn ?_
   refine j3 hlt10 ?_
   refine p9 hn ?_
   refine A5 _ _ ?_
   refine j5.seqQ fun _ A6 _ R6=>?_
   refine j5.blkQ fun _ A7 _ _ R7=>?_
   refine j6 hn ?_
   refine j6 hn ?_
   refine aJ1 hx9 ?_
   obtain ⟨r11,hr12,h4⟩:=j4 h4
   show l8 Try.prog _ _ _ _
   refine cA (hg1 _ _ hr12) ?_
   refine p8 hn ?_
   refine l5 h4 (fun hb13 h4=>?_) (fun hb13 h4=>?_)
   ·refine j6 hn ?_
    refine got hn ?_
    refine R7 _ _ ?_
    refine R6 _ _ ?_
    refine R3 _ _ ?_
    refine R2 _ _ ?_
    refine R1 _ _ ?_
    refine R0 _ _ ?_
    obtain rfl:=Option.some.inj h4
    obtain rfl:=Option.some.inj h
    exact ⟨[],_,fm⟩
   refine p9 hn ?_
   refine A7 _ _ ?_
   refine A6 _ _ ?_
   refine q8 hn ?_
   refine Or.inl (And.intro (aE3 hx9 hl1) ?_)
   refine A3 _ _ ?_
   exact jn ⟨(rest5,k2+1),hd2,h4⟩ [] (by show rest5.length < rest5.length+1; omega)
 rintro ⟨⟨⟩,rfl⟩
 refine A0 _ _ ?_
 refine j6 hn ?_
 refine got hn ?_
 obtain rfl:=Option.some.inj h
 exact ⟨[],_,fm⟩

/- cells.where$1 -/
set_option maxRecDepth 100000 in
set_option maxHeartbeats 8000000 in
theorem bT2 (N:Nat) (a0:Ce) (b0:St) (r:Bool) (h:Y9 N a0 b0=some r):Spec Try.prog 74 [] [.agg (eCe a0),.fp (eSt b0)] (.bool r) [] []:=by
 refine Spec.of z8 Try.func74 rfl Try.ntmps74 (by kernel_rfl) rfl rfl rfl fun Γ hn=>?_
 unfold Y9 at h
 refine j6 hn ?_
 refine j6 hn ?_
 refine got hn ?_
 obtain rfl:=Option.some.inj h
 exact ⟨[],_,fm⟩

/- cells.where -/
set_option maxRecDepth 100000 in
set_option maxHeartbeats 8000000 in
theorem bG6 (N:Nat) (a0:(List Ce)) (a1:St) (r:Int) (h:aH6 N a0 a1=some r):Spec Try.prog 41 [] [.sl 6 (List.map eCe a0),.agg (eSt a1)] (.int r) [] []:=by
 refine Spec.of z8 Try.func41 rfl Try.ntmps41 (by kernel_rfl) rfl rfl rfl fun Γ hn=>?_
 unfold aH6 at h
 refine j6 hn ?_
 refine j5.gh (Gh.fzBox 3 3 rfl rfl rfl) (fun _=>?_)
 refine kp [(0,_),(3,_)] [] ?_
 refine j6 hn ?_
 obtain ⟨r1,hr2,h⟩:=j4 h
 show l8 Try.prog _ _ _ _
 refine cA (aJ3 N a0 (fun x0_=>Y9 N x0_ a1) (fun x0_ y_ hy_=>bT2 N x0_ a1 y_ hy_) r1 hr2) ?_
 refine got hn ?_
 obtain rfl:=Option.some.inj h
 exact ⟨[],_,fm⟩

/- slices.IndexFunc[[]api.Line,api.Line] -/
set_option maxRecDepth 100000 in
set_option maxHeartbeats 8000000 in
theorem Y0 (N:Nat) (a0:(List Ln)) (g1:Ln→Option Bool) {K1:Nat} {c1_0:List AV} (hg1:∀x0_ y_,g1 x0_=some y_→Spec Try.prog K1 [] [.agg (K7 x0_),.fp c1_0] (.bool y_) [] []) (r:Int) (h:G7 N a0 g1=some r):Spec Try.prog 75 [] [.sl 2 (List.map K7 a0),.fn K1 [.fp c1_0]] (.int r) [] []:=by
 refine Spec.of z8 Try.func75 rfl Try.ntmps75 (by kernel_rfl) rfl rfl rfl fun Γ hn=>?_
 unfold G7 at h
 refine j6 hn ?_
 refine j5.seqQ fun _ A0 _ R0=>?_
 refine j6 hn ?_
 refine D5 (fun hl1=>?_)
 obtain ⟨o3,h4,h⟩:=j4 h
 refine jk (ι:={ s // o3=D9.next s }) hn (fun s=>[]) (fun s=>[]) [] [] (fun _ A1 _ R1=>?_) ?_
 ·refine j5.blkQ fun _ _ E2 _ R2=>?_
  refine lq (ι:={ q:((List Ln)×Nat) // q.1=a0.drop q.2∧y9 N g1 q.1 q.2=some o3 }) hn (fun q=>[(8,.int (q.1.2:Int))]) (fun q=>[]) (fun q=>q.1.1.length) [(0,_),(1,_),(7,_)] [] ⟨(a0,0),rfl,h4⟩ [] ?_
  rintro ⟨⟨rest_,k2⟩,hd6,h4⟩ _ A3 X3 R3
  replace hd6:rest_=a0.drop k2:=hd6
  rcases rest_ with _|⟨x8,rest5⟩
  ·have hlt10:=N9 hd6
   replace h4:=(y9.eq_1 _ _ _).symm.trans h4
   refine j6 hn ?_
   refine j5.seqQ fun _ _ X4 _=>?_
   refine p8 hn ?_
   refine d9 hlt10 ?_
   refine F6 hn ?_
   refine X4 _ _ _ ?_
   refine X3 _ _ _ ?_
   refine E2 _ _ ?_
   refine A1 _ _ ?_
   exact jn ⟨_,sj h4⟩ []
  ·obtain ⟨hx9,hd2,hlt10⟩:=H9 hd6
   replace h4:=(y9.eq_2 _ _ _ _ _).symm.trans h4
   refine j6 hn ?_
   refine j5.seqQ fun _ A5 _ _=>?_
   refine p8 hn ?_
   refine j3 hlt10 ?_
   refine p9 hn ?_
   refine A5 _ _ ?_
   refine j5.seqQ fun _ A6 _ R6=>?_
   refine j5.blkQ fun _ A7 _ _ R7=>?_
   refine j6 hn ?_
   refine j6 hn ?_
   refine aJ1 hx9 ?_
   obtain ⟨r11,hr12,h4⟩:=j4 h4
   show l8 Try.prog _ _ _ _
   refine cA (hg1 _ _ hr12) ?_
   refine p8 hn ?_
   refine l5 h4 (fun hb13 h4=>?_) (fun hb13 h4=>?_)
   ·refine j6 hn ?_
    refine got hn ?_
    refine R7 _ _ ?_
    refine R6 _ _ ?_
    refine R3 _ _ ?_
    refine R2 _ _ ?_
    refine R1 _ _ ?_
    refine R0 _ _ ?_
    obtain rfl:=Option.some.inj h4
    obtain rfl:=Option.some.inj h
    exact ⟨[],_,fm⟩
   refine p9 hn ?_
   refine A7 _ _ ?_
   refine A6 _ _ ?_
   refine q8 hn ?_
   refine Or.inl (And.intro (aE3 hx9 hl1) ?_)
   refine A3 _ _ ?_
   exact jn ⟨(rest5,k2+1),hd2,h4⟩ [] (by show rest5.length < rest5.length+1; omega)
 rintro ⟨⟨⟩,rfl⟩
 refine A0 _ _ ?_
 refine j6 hn ?_
 refine got hn ?_
 obtain rfl:=Option.some.inj h
 exact ⟨[],_,fm⟩

/- slices.ContainsFunc[[]api.Line,api.Line] -/
set_option maxRecDepth 100000 in
set_option maxHeartbeats 8000000 in
theorem aI0 (N:Nat) (a0:(List Ln)) (g1:Ln→Option Bool) {K1:Nat} {c1_0:List AV} (hg1:∀x0_ y_,g1 x0_=some y_→Spec Try.prog K1 [] [.agg (K7 x0_),.fp c1_0] (.bool y_) [] []) (r:Bool) (h:J6 N a0 g1=some r):Spec Try.prog 42 [] [.sl 2 (List.map K7 a0),.fn K1 [.fp c1_0]] (.bool r) [] []:=by
 refine Spec.of z8 Try.func42 rfl Try.ntmps42 (by kernel_rfl) rfl rfl rfl fun Γ hn=>?_
 unfold J6 at h
 refine j6 hn ?_
 refine j6 hn ?_
 obtain ⟨r1,hr2,h⟩:=j4 h
 show l8 Try.prog _ _ _ _
 refine cA (Y0 N a0 g1 hg1 r1 hr2) ?_
 refine got hn ?_
 obtain rfl:=Option.some.inj h
 exact ⟨[],_,fm⟩

/- cells.Put$1 -/
set_option maxRecDepth 100000 in
set_option maxHeartbeats 8000000 in
theorem bZ0 (N:Nat) (a0:Ln) (b0:Int) (r:Bool) (h:aK8 N a0 b0=some r):Spec Try.prog 43 [] [.agg (K7 a0),.fp [.int b0]] (.bool r) [] []:=by
 refine Spec.of z8 Try.func43 rfl Try.ntmps43 (by kernel_rfl) rfl rfl rfl fun Γ hn=>?_
 unfold aK8 at h
 refine j6 hn ?_
 refine j6 hn ?_
 refine got hn ?_
 obtain rfl:=Option.some.inj h
 exact ⟨[],_,fm⟩

/- cells.Put -/
theorem cL1 (N:Nat) {l:List Ln} (h:Fit l.length 16):M4 N l=some l:=by
  unfold M4
  rw [show Nat.ble (l.length*16) 140737488355328=true from Nat.ble_eq_true_of_le h]
  rfl
def J3 (t:Ce):List AV:=[.int t.site.cls,.str t.site.name,.int t.site.pos,.int t.epoch,.bool t.many]
def nCe (t:Ce):List AV×List (List AV):=(J3 t,t.lines.map K7)
set_option maxRecDepth 100000 in
theorem b76 (N:Nat) (l:List Ce) (hf:Fit l.length 72) (hf2:∀t∈l,Fit t.lines.length 16):Spec Try.prog 40 [] [.sl 6 (l.map eCe)] (.nst 0) [(0,.nest 6 31 2 91 (l.map nCe))] [0]:=by
  refine Spec.of z8 Try.func40 rfl Try.ntmps40 (by kernel_rfl) rfl rfl rfl fun Γ hn=>?_
  (repeat (first|refine j6 hn ?_|refine q8 hn ?_|refine L8 hn ?_|refine p8 hn ?_|refine F6 hn ?_|refine p9 hn ?_|refine got hn ?_))
  refine D5 (fun hlen=>?_)
  (repeat (first|refine j6 hn ?_|refine q8 hn ?_|refine L8 hn ?_|refine p8 hn ?_|refine F6 hn ?_|refine p9 hn ?_|refine got hn ?_))
  refine j5.nilrow 3 3 6 31 rfl rfl rfl ?_
  refine j5.gh (Gh.pins0 100 2 91 rfl rfl) (fun _=>?_)
  refine j5.loop (ι:={p:Nat×List (Hd×List AV×List (List AV)) // p.1≤l.length∧p.2.map (·.2)=(l.take p.1).map nCe}) (fun p=>[(6,.sl 6 (l.map eCe)),(7,.int l.length),(8,.int p.1.1),(3,.own 3)])
    (fun p=>[(3,.row 6 (y7 p.1.2) 31),(100,.pins 2 (M8 p.1.2) 91)]) (fun p=>l.length - p.1.1) ⟨(0,[]),by omega,rfl⟩ [] ?_ ?_ ?_
  · exact ⟨⟨rfl,rfl,rfl,rfl,trivial⟩,⟨rfl,rfl,trivial⟩,rfl,rfl⟩
  · intro k; rw [hn]; rfl
  rintro ⟨⟨k,z⟩,hk,hz⟩
  have hk:k≤l.length:=hk
  have hz:z.map (·.2)=(l.take k).map nCe:=hz
  (repeat (first|refine j6 hn ?_|refine q8 hn ?_|refine L8 hn ?_|refine p8 hn ?_|refine F6 hn ?_|refine p9 hn ?_|refine got hn ?_))
  refine aH5 (fun hlt=>?_) (fun hge=>?_)
  · have hlt:k < l.length:=by have:(k:Int) < (l.length:Int):=hlt; omega
    (repeat (first|refine j6 hn ?_|refine q8 hn ?_|refine L8 hn ?_|refine p8 hn ?_|refine F6 hn ?_|refine p9 hn ?_|refine got hn ?_))
    refine And.intro (by omega) (And.intro (by simpa using hlt) ?_)
    intro cs hcs hrng
    obtain ⟨x,hx,rfl⟩:=c81 hcs
    have hx:l[k]?=some x:=hx
    (repeat (first|refine j6 hn ?_|refine q8 hn ?_|refine L8 hn ?_|refine p8 hn ?_|refine F6 hn ?_|refine p9 hn ?_|refine got hn ?_))
    show l8 Try.prog _ _ _ _; refine l8.as ((aH3 N x.lines x.lines (cL1 N (hf2 x (List.mem_of_getElem? hx)))).sw 0 14) (by first|exact aD5 rfl|((repeat (refine And.intro rfl ?_)); exact trivial)) (by (repeat (refine And.intro rfl ?_)); exact trivial) rfl ?_
    refine j5.gh (Gh.pinB 5 5 14 100 rfl rfl rfl rfl rfl rfl rfl) (fun h=>?_)
    (repeat (first|refine j6 hn ?_|refine q8 hn ?_|refine L8 hn ?_|refine p8 hn ?_|refine F6 hn ?_|refine p9 hn ?_|refine got hn ?_))
    refine Exists.intro [J3 x++[.con h.v]] (And.intro (by repeat (first|exact trivial|exact rfl|(refine And.intro ?_ ?_))) ?_)
    have hzl:(y7 z).length=k:=by
      have:=bD9 hz
      rw [List.length_take] at this
      simp only [y7,List.length_map]
      omega
    refine And.intro ?_ (Exists.intro (y7 (z++[(h,nCe x)])) (And.intro (by rw [bB7]; exact D8 _) ?_))
    · show ((y7 z).length+1)*72≤_
      rw [hzl]
      exact Nat.le_trans (Nat.mul_le_mul_right 72 hlt) hf
    (repeat (first|refine j6 hn ?_|refine q8 hn ?_|refine L8 hn ?_|refine p8 hn ?_|refine F6 hn ?_|refine p9 hn ?_|refine got hn ?_))
    refine Or.inl (And.intro (bT9 hlt hlen) ?_)
    have hz2:(z++[(h,nCe x)]).map (·.2)=(l.take (k+1)).map nCe:=by
      rw [b53 hx,List.map_append,List.map_append,show z.map (·.2)=(l.take k).map nCe from hz]
      rfl
    refine ⟨⟨(k+1,z++[(h,nCe x)]),hlt,hz2⟩,[(3,19)],by show l.length - (k+1) < l.length - k; omega,⟨⟨rfl,rfl,rfl,rfl,trivial⟩,⟨rfl,?_,trivial⟩,rfl,rfl⟩⟩
    · exact congrArg (fun q=>some (Obj.pins 2 q 91)) (bH9 z (h,nCe x)).symm
  · have e:k=l.length:=by have:¬(k:Int) < (l.length:Int):=hge; omega
    subst e
    have hz:z.map (·.2)=l.map nCe:=by
      have:z.map (·.2)=(l.take l.length).map nCe:=hz
      rwa [List.take_length] at this
    refine F6 hn ?_
    show j5 Try.prog Γ _ _ _ _; refine j5.gh (Gh.close 3 3 100 101 z rfl rfl rfl rfl rfl hz rfl rfl rfl rfl rfl) ?_
    intro _
    (repeat (first|refine j6 hn ?_|refine q8 hn ?_|refine L8 hn ?_|refine p8 hn ?_|refine F6 hn ?_|refine p9 hn ?_|refine got hn ?_))
    exact ⟨[(0,101)],_,rfl,rfl,⟨rfl,trivial⟩,rfl,rfl,rfl,rfl,rfl⟩
theorem cA6 (l:List Ce):aC2 2 (l.map nCe)=l.map eCe:=by simp [aC2,nCe,J3,eCe]
theorem cR8 (N:Nat) (s:St):∀(l:List Ce) (k:Nat),y8 N (fun x=>Y9 N x s) l k=some (match l.findIdx? (fun t=>decide (t.site=s)) with|some i=>.ret ((k+i:Nat):Int)|none=>.next ())
  |[],k=>rfl
  |x::l,k=>by
    rw [y8,aR8,cR8 N s l (k+1)]
    unfold Y9
    rw [show aF1 (eSt x.site) (eSt s)=decide (x.site=s) from cS3 x.site s]
    by_cases e:x.site=s
    · simp [e]
    · cases l.findIdx? (fun t=>decide (t.site=s))<;>simp [e]; omega
theorem b21 (N:Nat) (l:List Ce) (s:St):aH6 N l s=some (ixf (fun t=>decide (t.site=s)) l):=by
  unfold aH6 I6 ixf
  rw [cR8]
  cases l.findIdx? (fun t=>decide (t.site=s))<;>simp
theorem cQ3 (N:Nat) (c:Int):∀(l:List Ln) (k:Nat),y9 N (fun x=>aK8 N x c) l k=some (match l.findIdx? (fun t=>decide (t.cls=c)) with|some i=>.ret ((k+i:Nat):Int)|none=>.next ())
  |[],k=>rfl
  |x::l,k=>by
    rw [y9,aR8,cQ3 N c l (k+1)]
    unfold aK8
    by_cases e:x.cls=c
    · simp [e]
    · cases l.findIdx? (fun t=>decide (t.cls=c))<;>simp [e]; omega
theorem dC2 (N:Nat) (c:Int) (l:List Ln):J6 N l (fun x=>aK8 N x c)=some (decide (0≤ixf (fun t=>decide (t.cls=c)) l)):=by
  unfold J6 G7 ixf
  rw [cQ3]
  cases l.findIdx? (fun t=>decide (t.cls=c))<;>simp
set_option maxRecDepth 100000 in
set_option maxHeartbeats 1000000 in
theorem cA9 (N:Nat) (l:List Ce) (s:St) (e:Int) (c:Int) (f:Int) (r:List Ce) (h:aZ0 N l s e c f=some r):Spec Try.prog 11 [] [.sl 6 (l.map eCe),.agg (eSt s),.int e,.int c,.int f] (.own 0) [(0,.row 6 (r.map eCe) 31)] [0]:=by
  unfold aZ0 at h
  obtain ⟨hg,h⟩:=G5 h
  obtain rfl:=Option.some.inj h
  rw [Bool.and_eq_true,List.all_eq_true] at hg
  have hf:Fit (l.length+1) 72:=Nat.le_of_ble_eq_true hg.1
  have hf2:∀t∈l,Fit (t.lines.length+1) 16:=fun t ht=>Nat.le_of_ble_eq_true (hg.2 t ht)
  clear h hg
  refine Spec.of z8 Try.func11 rfl Try.ntmps11 (by kernel_rfl) rfl rfl rfl fun Γ hn=>?_
  refine j6 hn ?_
  show j5 Try.prog Γ _ _ _ _; refine j5.gh (Gh.fzBox 6 6 rfl rfl rfl) ?_
  intro _
  show j5 Try.prog Γ _ _ _ _; refine j5.gh (Gh.fzBox 8 8 rfl rfl rfl) ?_
  intro _
  (repeat (first|refine j6 hn ?_|refine q8 hn ?_|refine L8 hn ?_|refine p8 hn ?_|refine F6 hn ?_|refine p9 hn ?_|refine got hn ?_))
  show l8 Try.prog _ _ _ _; refine l8.as ((b76 N l (Nat.le_trans (Nat.mul_le_mul_right _ (Nat.le_succ _)) hf) (fun t ht=>Nat.le_trans (Nat.mul_le_mul_right _ (Nat.le_succ _)) (hf2 t ht))).sw 0 15) (by first|exact aD5 rfl|((repeat (refine And.intro rfl ?_)); exact trivial)) (by (repeat (refine And.intro rfl ?_)); exact trivial) rfl ?_
  (repeat (first|refine j6 hn ?_|refine q8 hn ?_|refine L8 hn ?_|refine p8 hn ?_|refine F6 hn ?_|refine p9 hn ?_|refine got hn ?_))
  show l8 Try.prog _ _ _ _
  refine l8.lend (bG6 N l s _ (b21 N l s)) ?_ rfl ?_
  · show aG1 [.sl 6 (aC2 2 (l.map nCe)),.agg (eSt s)] _
    rw [cA6]
    exact aD5 rfl
  show j5 Try.prog Γ _ _ _ _; refine j5.gh (Gh.open 11 15 102 103 rfl rfl rfl rfl rfl rfl (fun _=>rfl)) ?_
  rintro ⟨z,hz⟩
  refine j5.cut (ι:={ q:Nat×Ce×Hd×List (Hd×List AV×List (List AV)) // q.2.2.2[q.1]?=some (q.2.2.1,nCe q.2.1)∧q.2.2.2.map (·.2)=(ixd (fun t:Ce=>decide (t.site=s)) ⟨s,e,false,[]⟩ l).1.map nCe∧(ixd (fun t:Ce=>decide (t.site=s)) ⟨s,e,false,[]⟩ l).1[q.1]?=some q.2.1∧(ixd (fun t:Ce=>decide (t.site=s)) ⟨s,e,false,[]⟩ l).2=q.1∧Fit (q.2.1.lines.length+1) 16∧q.2.1.site=s })
    (fun q=>[(11,.own 102),(12,.int q.1.1),(2,.int e),(4,.int f),(6,.fp (eSt s)),(8,.fp [.int c])]) (fun q=>[(102,.row 6 (y7 q.1.2.2.2) 31),(103,.pins 2 ((M8 q.1.2.2.2).eraseIdx q.1.1) 91),(104,.row 2 (q.1.2.1.lines.map K7) 91),(105,.eqv 104 q.1.2.2.1.v)]) ?_ ?_ ?_
  · (repeat (first|refine j6 hn ?_|refine q8 hn ?_|refine L8 hn ?_|refine p8 hn ?_|refine F6 hn ?_|refine p9 hn ?_|refine got hn ?_))
    rcases bP1 (fun t:Ce=>decide (t.site=s)) l with ⟨k,x,e1,e2,e3,e4⟩|⟨e1,e2⟩
    · refine aH5 (fun hlt=>?_) (fun hge=>?_)
      · rw [e1] at hlt; omega
      · obtain ⟨h,hz1⟩:=cP7 hz e2
        have hp:(M8 z).Perm ((h,x.lines.map K7)::(M8 z).eraseIdx k):=by
          have hk:(M8 z)[k]?=some (h,x.lines.map K7):=by simp [M8,hz1,nCe]
          obtain ⟨hl,hv⟩:=List.getElem?_eq_some_iff.1 hk
          rw [←hv]
          exact (List.getElem_cons_eraseIdx_perm' hl).symm
        show j5 Try.prog Γ _ _ _ _; refine j5.gh (Gh.unpin 103 104 105 rfl hp rfl rfl rfl rfl rfl) ?_
        intro _
        refine p9 hn ?_
        have ex:ixd (fun t:Ce=>decide (t.site=s)) ⟨s,e,false,[]⟩ l=(l,k):=by unfold ixd; rw [e4]
        refine ⟨⟨(k,x,h,z),hz1,by rw [ex]; exact hz,by rw [ex]; exact e2,by rw [ex],hf2 x (List.mem_of_getElem? e2),of_decide_eq_true e3⟩,[],⟨⟨rfl,congrArg AV.int e1,rfl,rfl,rfl,rfl,trivial⟩,⟨rfl,rfl,rfl,rfl,trivial⟩,rfl,rfl⟩⟩
    · refine aH5 (fun hlt=>?_) (fun hge=>?_)
      · (repeat (first|refine j6 hn ?_|refine q8 hn ?_|refine L8 hn ?_|refine p8 hn ?_|refine F6 hn ?_|refine p9 hn ?_|refine got hn ?_))
        rintro _ rfl hlen
        refine j5.ops (goo hn 7 ?_)
        refine Exists.intro [[.int s.cls,.str s.name,.int s.pos,.int e,.bool false,.nilsl]] (And.intro (by repeat (first|exact trivial|exact rfl|(refine And.intro ?_ ?_))) ?_)
        refine And.intro ?_ (Exists.intro (y7 z++[[AV.int s.cls,.str s.name,.int s.pos,.int e,.bool false,.nilsl]]) (And.intro (D8 _) ?_))
        · show ((y7 z).length+1)*72≤_
          rw [show (y7 z).length=l.length by simp only [y7,List.length_map]; exact bD9 hz]
          exact hf
        have hat:(y7 z++[[AV.int s.cls,.str s.name,.int s.pos,.int e,.bool false,.nilsl]])[l.length]?=some [AV.int s.cls,.str s.name,.int s.pos,.int e,.bool false,.nilsl]:=by
          rw [List.getElem?_append_right (by simp [y7,bD9 hz])]
          simp [y7,bD9 hz]
        show OOk Try.prog Γ _ _ _ _ _
        refine OOk.gh (Gh.unnil (r:=28) (i:=l.length) (off:=5) (j:=104) (j':=105) (isz:=2) (ie:=91) rfl hat rfl rfl rfl rfl rfl rfl) ?_
        intro _
        refine OOk.done ?_
        have ex:ixd (fun t:Ce=>decide (t.site=s)) ⟨s,e,false,[]⟩ l=(l++[⟨s,e,false,[]⟩],l.length):=by unfold ixd; rw [e2]
        have hlz:=bD9 hz
        refine ⟨⟨(l.length,⟨s,e,false,[]⟩,⟨none,0,0⟩,z++[(⟨none,0,0⟩,nCe ⟨s,e,false,[]⟩)]),?_,?_,?_,?_,?_,rfl⟩,[(102,28)],⟨⟨rfl,?_,rfl,rfl,rfl,rfl,trivial⟩,⟨?_,?_,rfl,rfl,trivial⟩,rfl,rfl⟩⟩
        · show (z++[_])[l.length]?=_
          rw [List.getElem?_append_right (by omega)]
          simp [hlz]
        · rw [ex]
          show List.map (fun p:Hd×List AV×List (List AV)=>p.2) (z++[_])=List.map nCe (l++[_])
          rw [List.map_append,List.map_append,hz]
          rfl
        · rw [ex]
          show (l++[_])[l.length]?=_
          rw [List.getElem?_append_right (Nat.le_refl _)]
          simp
        · rw [ex]
        · show (0+1)*16≤_
          decide
        · exact congrArg AV.int (by simp [y7,hlz])
        · refine congrArg (fun q=>some (Obj.row 6 q 31)) ?_
          show (y7 z++[_]).set l.length _=y7 (z++[_])
          rw [bB7,List.set_append_right _ _ (by simp [y7,hlz])]
          simp [y7,hlz,nCe,J3]
        · refine congrArg (fun q=>some (Obj.pins 2 q 91)) ?_
          show M8 z=(M8 (z++[_])).eraseIdx l.length
          rw [bH9,List.eraseIdx_append_of_length_le (by simp [M8,hlz])]
          simp [M8,hlz]
      · rw [e1] at hge; omega
  · intro k; rw [hn]; rfl
  rintro ⟨⟨k,x,h,z⟩,hq1,hq2,hq3,hq4,hq5,hq6⟩
  have hq1:z[k]?=some (h,nCe x):=hq1
  have hq6:x.site=s:=hq6
  have hkz:k < (y7 z).length:=by
    have:=(List.getElem?_eq_some_iff.1 hq1).1
    simpa [y7] using this
  have hat:(y7 z)[k]?=some (J3 x++[.con h.v]):=by simp [y7,hq1,nCe]
  (repeat (first|refine j6 hn ?_|refine q8 hn ?_|refine L8 hn ?_|refine p8 hn ?_|refine F6 hn ?_|refine p9 hn ?_|refine got hn ?_))
  refine And.intro (by omega) (And.intro (by simpa using hkz) ?_)
  refine And.intro (by simpa using hkz) (fun cs hcs=>?_)
  have hcs:(y7 z)[k]?=some cs:=hcs
  obtain rfl:cs=J3 x++[.con h.v]:=Option.some.inj (hcs.symm.trans hat)
  show j5 Try.prog Γ _ _ _ _
  refine j5.joinR (ι:={ q:Ce×Hd // q.1=aB7 e x∧Fit (q.1.lines.length+1) 16 })
    (fun q=>[(11,.own 102),(12,.int k),(4,.int f),(8,.fp [.int c])]) (fun q=>[(102,.row 6 ((y7 z).set k (J3 q.1.1++[.con q.1.2.v])) 31),(103,.pins 2 ((M8 z).eraseIdx k) 91),(104,.row 2 (q.1.1.lines.map K7) 91),(105,.eqv 104 q.1.2.v)]) (fun Q2 q2n q2x q2r=>?_) (by intro k; rw [hn]; rfl) ?_
  · (repeat (first|refine j6 hn ?_|refine q8 hn ?_|refine L8 hn ?_|refine p8 hn ?_|refine F6 hn ?_|refine p9 hn ?_|refine got hn ?_))
    refine bG1 (fun hb=>?_) (fun hb=>?_)
    · have hne:¬x.epoch=e:=by simpa using hb
      have hfr:aB7 e x=⟨x.site,e,false,[]⟩:=if_neg hne
      refine q8 hn ?_
      refine And.intro (by omega) (And.intro (by simpa using hkz) ?_)
      refine And.intro (by simpa using hkz) (fun cs hcs=>?_)
      have hcs:(y7 z)[k]?=some cs:=hcs
      obtain rfl:cs=J3 x++[.con h.v]:=Option.some.inj (hcs.symm.trans hat)
      refine Exists.intro ((y7 z).set k [.int s.cls,.str s.name,.int s.pos,.int e,.bool false,.nilsl]) (And.intro (D8 _) ?_)
      have hat2:((y7 z).set k [AV.int s.cls,.str s.name,.int s.pos,.int e,.bool false,.nilsl])[k]?=some [AV.int s.cls,.str s.name,.int s.pos,.int e,.bool false,.nilsl]:=by rw [List.getElem?_set,if_pos rfl,if_pos hkz]
      refine q2n _ _ ?_
      refine F4.gh (Gh.unnil (r:=102) (i:=k) (off:=5) (j:=106) (j':=107) (isz:=2) (ie:=91) rfl hat2 rfl rfl rfl rfl rfl rfl) (fun _=>?_)
      refine F4.done ?_
      refine ⟨⟨(aB7 e x,⟨none,0,0⟩),rfl,by show Fit ((aB7 e x).lines.length+1) 16; rw [hfr]; show (0+1)*16≤_; decide⟩,[(104,106),(105,107)],trivial,⟨⟨rfl,rfl,rfl,rfl,trivial⟩,⟨?_,rfl,?_,rfl,trivial⟩,rfl,rfl⟩⟩
      · refine congrArg (fun q=>some (Obj.row 6 q 31)) ?_
        show ((y7 z).set k [AV.int s.cls,.str s.name,.int s.pos,.int e,.bool false,.nilsl]).set k [AV.int s.cls,.str s.name,.int s.pos,.int e,.bool false,.con (⟨none,0,0⟩:Hd).v]=(y7 z).set k (J3 (aB7 e x)++[.con (⟨none,0,0⟩:Hd).v])
        rw [List.set_set,hfr,←hq6]
        rfl
      · refine congrArg (fun q=>some (Obj.row 2 q 91)) ?_
        show []=List.map K7 (aB7 e x).lines
        rw [hfr]
        rfl
    · have he:x.epoch=e:=by simpa using hb
      have hfr:aB7 e x=x:=if_pos he
      refine p9 hn ?_
      refine q2n _ _ ?_
      refine F4.done ?_
      refine ⟨⟨(aB7 e x,h),rfl,by show Fit ((aB7 e x).lines.length+1) 16; rw [hfr]; exact hq5⟩,[],trivial,⟨⟨rfl,rfl,rfl,rfl,trivial⟩,⟨?_,rfl,?_,rfl,trivial⟩,rfl,rfl⟩⟩
      · refine congrArg (fun q=>some (Obj.row 6 q 31)) ?_
        show y7 z=(y7 z).set k (J3 (aB7 e x)++[.con h.v])
        rw [hfr]
        exact (bM7 hat).symm
      · refine congrArg (fun q=>some (Obj.row 2 q 91)) ?_
        show List.map K7 x.lines=List.map K7 (aB7 e x).lines
        rw [hfr]
  rintro ⟨⟨y,g⟩,hy,hg5⟩
  have hy:y=aB7 e x:=hy
  have hg5:Fit (y.lines.length+1) 16:=hg5
  have hatg:((y7 z).set k (J3 y++[.con g.v]))[k]?=some (J3 y++[.con g.v]):=by rw [List.getElem?_set,if_pos rfl,if_pos hkz]
  (repeat (first|refine j6 hn ?_|refine q8 hn ?_|refine L8 hn ?_|refine p8 hn ?_|refine F6 hn ?_|refine p9 hn ?_|refine got hn ?_))
  refine And.intro (by omega) (And.intro (by simpa using hkz) ?_)
  show j5 Try.prog Γ _ _ _ _
  refine j5.seqQ fun Q4 q4n q4x q4r=>?_
  refine j5.joinR (ι:=Hd) (fun q=>[(11,.own 102),(12,.int k)]) (fun q=>[(102,.row 6 ((y7 z).set k (J3 (K9 c f y)++[.con q.v])) 31),(103,.pins 2 ((M8 z).eraseIdx k) 91),(104,.row 2 ((K9 c f y).lines.map K7) 91),(105,.eqv 104 q.v)]) (fun Q3 q3n q3x q3r=>?_) (by intro k; rw [hn]; rfl) ?_
  · (repeat (first|refine j6 hn ?_|refine q8 hn ?_|refine L8 hn ?_|refine p8 hn ?_|refine F6 hn ?_|refine p9 hn ?_|refine got hn ?_))
    refine And.intro (by simpa using hkz) (fun cs hcs=>?_)
    have hcs:((y7 z).set k (J3 y++[.con g.v]))[k]?=some cs:=hcs
    obtain rfl:cs=J3 y++[.con g.v]:=Option.some.inj (hcs.symm.trans hatg)
    refine bG1 (fun hm=>?_) (fun hm=>?_)
    · repeat (refine j3 hm ?_)
      have hl:K9 c f y=y:=if_pos (Or.inl hm)
      (repeat (first|refine j6 hn ?_|refine q8 hn ?_|refine L8 hn ?_|refine p8 hn ?_|refine F6 hn ?_|refine p9 hn ?_|refine got hn ?_))
      refine q3n _ _ ?_
      refine F4.done ?_
      refine ⟨g,[],trivial,⟨⟨rfl,rfl,trivial⟩,⟨?_,rfl,?_,rfl,trivial⟩,rfl,rfl⟩⟩
      · refine congrArg (fun q=>some (Obj.row 6 q 31)) ?_
        show (y7 z).set k (J3 y++[.con g.v])=(y7 z).set k (J3 (K9 c f y)++[.con g.v])
        rw [hl]
      · refine congrArg (fun q=>some (Obj.row 2 q 91)) ?_
        show List.map K7 y.lines=List.map K7 (K9 c f y).lines
        rw [hl]
    · refine d9 hm ?_
      refine d9 hm ?_
      refine d9 hm ?_
      refine And.intro (by simpa using hkz) (fun cs hcs=>?_)
      have hcs:((y7 z).set k (J3 y++[.con g.v]))[k]?=some cs:=hcs
      obtain rfl:cs=J3 y++[.con g.v]:=Option.some.inj (hcs.symm.trans hatg)
      refine And.intro rfl ?_
      refine d9 hm ?_
      refine d9 hm ?_
      show l8 Try.prog _ _ _ _
      refine l8.lend (aI0 N y.lines (fun x=>aK8 N x c) (fun x v hv=>bZ0 N x c v hv) _ (dC2 N c y.lines)) (aD5 rfl) rfl ?_
      refine d9 hm ?_
      (repeat (first|refine j6 hn ?_|refine q8 hn ?_|refine L8 hn ?_|refine p8 hn ?_|refine F6 hn ?_|refine p9 hn ?_|refine got hn ?_))
      refine bG1 (fun hc=>?_) (fun hc=>?_)
      · have hl:K9 c f y=y:=if_pos (Or.inr (of_decide_eq_true hc))
        (repeat (first|refine j6 hn ?_|refine q8 hn ?_|refine L8 hn ?_|refine p8 hn ?_|refine F6 hn ?_|refine p9 hn ?_|refine got hn ?_))
        refine q3n _ _ ?_
        refine F4.done ?_
        refine ⟨g,[],trivial,⟨⟨rfl,rfl,trivial⟩,⟨?_,rfl,?_,rfl,trivial⟩,rfl,rfl⟩⟩
        · refine congrArg (fun q=>some (Obj.row 6 q 31)) ?_
          show (y7 z).set k (J3 y++[.con g.v])=(y7 z).set k (J3 (K9 c f y)++[.con g.v])
          rw [hl]
        · refine congrArg (fun q=>some (Obj.row 2 q 91)) ?_
          show List.map K7 y.lines=List.map K7 (K9 c f y).lines
          rw [hl]
      · have hno:¬(y.many=true∨0≤ixf (fun t:Ln=>decide (t.cls=c)) y.lines):=by
          rintro (h|h)
          · rw [h] at hm; cases hm
          · exact absurd h (of_decide_eq_false hc)
        (repeat (first|refine j6 hn ?_|refine q8 hn ?_|refine L8 hn ?_|refine p8 hn ?_|refine F6 hn ?_|refine p9 hn ?_|refine got hn ?_))
        refine And.intro (by simpa using hkz) (fun cs hcs=>?_)
        have hcs:((y7 z).set k (J3 y++[.con g.v]))[k]?=some cs:=hcs
        obtain rfl:cs=J3 y++[.con g.v]:=Option.some.inj (hcs.symm.trans hatg)
        refine And.intro rfl ?_
        rintro _ rfl hlen2
        (repeat (first|refine j6 hn ?_|refine q8 hn ?_|refine L8 hn ?_|refine p8 hn ?_|refine F6 hn ?_|refine p9 hn ?_|refine got hn ?_))
        refine aH5 (fun hlt=>?_) (fun hge=>?_)
        · have h3:(3:Int)≤(y.lines.length:Int):=by simpa using hlt
          have hl:K9 c f y=⟨y.site,y.epoch,true,[]⟩:=by unfold K9; rw [if_neg hno,if_pos h3]
          (repeat (first|refine j6 hn ?_|refine q8 hn ?_|refine L8 hn ?_|refine p8 hn ?_|refine F6 hn ?_|refine p9 hn ?_|refine got hn ?_))
          refine And.intro (by simpa using hkz) (fun cs hcs=>?_)
          have hcs:((y7 z).set k (J3 y++[.con g.v]))[k]?=some cs:=hcs
          obtain rfl:cs=J3 y++[.con g.v]:=Option.some.inj (hcs.symm.trans hatg)
          refine Exists.intro ((y7 z).set k [.int y.site.cls,.str y.site.name,.int y.site.pos,.int y.epoch,.bool true,.con g.v]) (And.intro (by show aE8 (((y7 z).set k (J3 y++[.con g.v])).set k [AV.int y.site.cls,.str y.site.name,.int y.site.pos,.int y.epoch,.bool true,.con g.v]) _; rw [List.set_set]; exact D8 _) ?_)
          have hat5:((y7 z).set k [AV.int y.site.cls,.str y.site.name,.int y.site.pos,.int y.epoch,.bool true,.con g.v])[k]?=some [AV.int y.site.cls,.str y.site.name,.int y.site.pos,.int y.epoch,.bool true,.con g.v]:=by rw [List.getElem?_set,if_pos rfl,if_pos hkz]
          refine And.intro (by simpa using hkz) (fun cs hcs=>?_)
          have hcs:((y7 z).set k [AV.int y.site.cls,.str y.site.name,.int y.site.pos,.int y.epoch,.bool true,.con g.v])[k]?=some cs:=hcs
          obtain rfl:cs=[AV.int y.site.cls,.str y.site.name,.int y.site.pos,.int y.epoch,.bool true,.con g.v]:=Option.some.inj (hcs.symm.trans hat5)
          refine Exists.intro ((y7 z).set k [.int y.site.cls,.str y.site.name,.int y.site.pos,.int y.epoch,.bool true,.nilsl]) (And.intro (by show aE8 (((y7 z).set k [AV.int y.site.cls,.str y.site.name,.int y.site.pos,.int y.epoch,.bool true,.con g.v]).set k [AV.int y.site.cls,.str y.site.name,.int y.site.pos,.int y.epoch,.bool true,.nilsl]) _; rw [List.set_set]; exact D8 _) ?_)
          have hat6:((y7 z).set k [AV.int y.site.cls,.str y.site.name,.int y.site.pos,.int y.epoch,.bool true,.nilsl])[k]?=some [AV.int y.site.cls,.str y.site.name,.int y.site.pos,.int y.epoch,.bool true,.nilsl]:=by rw [List.getElem?_set,if_pos rfl,if_pos hkz]
          (repeat (first|refine j6 hn ?_|refine q8 hn ?_|refine L8 hn ?_|refine p8 hn ?_|refine F6 hn ?_|refine p9 hn ?_|refine got hn ?_))
          refine q3n _ _ ?_
          refine F4.gh (Gh.unnil (r:=102) (i:=k) (off:=5) (j:=106) (j':=107) (isz:=2) (ie:=91) rfl hat6 rfl rfl rfl rfl rfl rfl) (fun _=>?_)
          refine F4.done ?_
          refine ⟨⟨none,0,0⟩,[(104,106),(105,107)],trivial,⟨⟨rfl,rfl,trivial⟩,⟨?_,rfl,?_,rfl,trivial⟩,rfl,rfl⟩⟩
          · refine congrArg (fun q=>some (Obj.row 6 q 31)) ?_
            show ((y7 z).set k [AV.int y.site.cls,.str y.site.name,.int y.site.pos,.int y.epoch,.bool true,.nilsl]).set k [AV.int y.site.cls,.str y.site.name,.int y.site.pos,.int y.epoch,.bool true,.con (⟨none,0,0⟩:Hd).v]=(y7 z).set k (J3 (K9 c f y)++[.con (⟨none,0,0⟩:Hd).v])
            rw [List.set_set,hl]
            rfl
          · refine congrArg (fun q=>some (Obj.row 2 q 91)) ?_
            show []=List.map K7 (K9 c f y).lines
            rw [hl]
            rfl
        · have h3:¬(3:Int)≤(y.lines.length:Int):=by simpa using hge
          have hl:K9 c f y=⟨y.site,y.epoch,y.many,y.lines++[⟨c,f⟩]⟩:=by unfold K9; rw [if_neg hno,if_neg h3]
          refine P5 hn (by kernel_rfl) ?_
          refine And.intro (by simpa using hkz) (fun cs hcs=>?_)
          have hcs:((y7 z).set k (J3 y++[.con g.v]))[k]?=some cs:=hcs
          obtain rfl:cs=J3 y++[.con g.v]:=Option.some.inj (hcs.symm.trans hatg)
          refine And.intro rfl ?_
          refine Exists.intro (List.map K7 [⟨c,f⟩]) (And.intro (by repeat (first|exact trivial|exact rfl|(refine And.intro ?_ ?_))) ?_)
          refine And.intro ?_ (Exists.intro (List.map K7 (y.lines++[⟨c,f⟩])) (And.intro (bJ4 (D8 _)) ?_))
          · show ((y.lines.map K7).length+1)*16≤_
            rw [List.length_map]
            exact hg5
          refine And.intro (by simpa using hkz) (And.intro ?_ ?_)
          · intro cs hcs
            have hcs:((y7 z).set k (J3 y++[.con g.v]))[k]?=some cs:=hcs
            obtain rfl:cs=J3 y++[.con g.v]:=Option.some.inj (hcs.symm.trans hatg)
            show 5 < 6
            omega
          refine q3n _ _ ?_
          refine F4.gh (Gh.rowx 102 106 rfl rfl rfl (fun _=>rfl) rfl) (fun g'=>?_)
          refine F4.done ?_
          refine ⟨g',[(104,54),(105,106)],trivial,⟨⟨rfl,rfl,trivial⟩,⟨?_,rfl,?_,rfl,trivial⟩,rfl,rfl⟩⟩
          · refine congrArg (fun q=>some (Obj.row 6 q 31)) ?_
            show aO4 ((y7 z).set k (J3 y++[.con g.v])) k 5 (.con g'.v)=(y7 z).set k (J3 (K9 c f y)++[.con g'.v])
            unfold aO4
            rw [hatg,hl]
            show ((y7 z).set k _).set k _=_
            rw [List.set_set]
            rfl
          · refine congrArg (fun q=>some (Obj.row 2 q 91)) ?_
            show List.map K7 (y.lines++[⟨c,f⟩])=List.map K7 (K9 c f y).lines
            rw [hl]
  intro q
  refine q4n _ _ ?_
  have hat4:((y7 z).set k (J3 (K9 c f y)++[.con q.v]))[k]?=some (J3 (K9 c f y)++[.con q.v]):=by rw [List.getElem?_set,if_pos rfl,if_pos hkz]
  have hzk:k < z.length:=(List.getElem?_eq_some_iff.1 hq1).1
  have hp:(M8 (z.set k (q,J3 (K9 c f y),(K9 c f y).lines.map K7))).Perm ((q,(K9 c f y).lines.map K7)::(M8 z).eraseIdx k):=by
    rw [show M8 (z.set k (q,J3 (K9 c f y),(K9 c f y).lines.map K7))=(M8 z).set k (q,(K9 c f y).lines.map K7) by simp [M8,List.map_set]]
    exact set_perm (by simpa [M8] using hzk)
  show j5 Try.prog Γ _ _ _ _
  refine j5.gh (Gh.repin (h:=q) (ls:=(K9 c f y).lines.map K7) (l':=M8 (z.set k (q,J3 (K9 c f y),(K9 c f y).lines.map K7))) 104 105 103 rfl rfl rfl hp rfl rfl rfl) (fun _=>?_)
  have hz2:(z.set k (q,J3 (K9 c f y),(K9 c f y).lines.map K7)).map (·.2)=((ixd (fun t:Ce=>decide (t.site=s)) ⟨s,e,false,[]⟩ l).1.modify (ixd (fun t:Ce=>decide (t.site=s)) ⟨s,e,false,[]⟩ l).2 (aJ0 e c f)).map nCe:=by
    have h2:(ixd (fun t:Ce=>decide (t.site=s)) ⟨s,e,false,[]⟩ l).2=k:=hq4
    have h3:z.map (·.2)=(ixd (fun t:Ce=>decide (t.site=s)) ⟨s,e,false,[]⟩ l).1.map nCe:=hq2
    have h4:(ixd (fun t:Ce=>decide (t.site=s)) ⟨s,e,false,[]⟩ l).1[k]?=some x:=hq3
    rw [h2,bJ0 h4,List.map_set,List.map_set,h3]
    unfold aJ0
    rw [←hy]
    rfl
  refine j5.gh (Gh.close 11 102 103 108 (z.set k (q,J3 (K9 c f y),(K9 c f y).lines.map K7)) rfl rfl rfl (by show (y7 z).set k _=_; simp [y7,List.map_set]) rfl hz2 rfl rfl rfl rfl rfl) (fun _=>?_)
  show j5 Try.prog Γ _ _ _ _
  refine j5.flat 11 108 109 rfl rfl rfl rfl rfl ?_
  rw [cA6]
  (repeat (first|refine j6 hn ?_|refine q8 hn ?_|refine L8 hn ?_|refine p8 hn ?_|refine F6 hn ?_|refine p9 hn ?_|refine got hn ?_))
  exact ⟨[(0,109)],_,rfl,rfl,⟨rfl,trivial⟩,rfl,rfl,rfl,rfl,rfl⟩

/- cells.Get -/
set_option maxRecDepth 100000 in
set_option maxHeartbeats 8000000 in
theorem cG3 (N:Nat) (a0:(List Ce)) (a1:St) (a2:Int) (a3:Int) (r:Int) (h:aY1 N a0 a1 a2 a3=some r):Spec Try.prog 12 [] [.sl 6 (List.map eCe a0),.agg (eSt a1),.int a2,.int a3] (.int r) [] []:=by
 refine Spec.of z8 Try.func12 rfl Try.ntmps12 (by kernel_rfl) rfl rfl rfl fun Γ hn=>?_
 unfold aY1 at h
 refine j6 hn ?_
 refine j6 hn ?_
 obtain ⟨r1,hr2,h⟩:=j4 h
 show l8 Try.prog _ _ _ _
 refine cA (bG6 N a0 a1 r1 hr2) ?_
 refine j5.seqQ fun _ A0 _ R0=>?_
 refine j5.seqQ fun _ A1 _ _=>?_
 obtain ⟨o5,h4,h⟩:=j4 h
 refine jk (ι:={ s // o5=s }) hn (fun s=>[(25,.bool s.1)]) (fun s=>[]) [(0,_),(3,_),(9,_)] [] (fun _ A2 _ _=>?_) ?_
 ·refine q8 hn ?_
  refine l5 h4 (fun hb6 h4=>?_) (fun hb6 h4=>?_)
  ·refine j3 hb6 ?_
   refine j3 hb6 ?_
   refine j3 hb6 ?_
   refine j3 hb6 ?_
   refine j3 hb6 ?_
   refine j3 hb6 ?_
   refine j3 hb6 ?_
   refine A2 _ _ ?_
   exact jn ⟨_,sj h4⟩ []
  refine d9 hb6 ?_
  refine d9 hb6 ?_
  obtain ⟨x7,hx8,h4⟩:=j4 h4
  refine V5 hx8 ?_
  refine d9 hb6 ?_
  refine d9 hb6 ?_
  refine d9 hb6 ?_
  refine d9 hb6 ?_
  refine d9 hb6 ?_
  refine A2 _ _ ?_
  exact jn ⟨_,sj h4⟩ []
 rintro ⟨v3,hv_⟩
 replace hv_:=hv_.symm
 subst hv_
 refine A1 _ _ ?_
 refine p8 hn ?_
 refine l5 h (fun hb9 h=>?_) (fun hb9 h=>?_)
 ·refine j6 hn ?_
  refine got hn ?_
  refine R0 _ _ ?_
  obtain rfl:=Option.some.inj h
  exact ⟨[],_,fm⟩
 refine p9 hn ?_
 refine A0 _ _ ?_
 refine j5.seqQ fun _ A3 _ R3=>?_
 refine j6 hn ?_
 obtain ⟨x10,hx11,h⟩:=j4 h
 refine V5 hx11 ?_
 refine D5 (fun hl12=>?_)
 obtain ⟨o14,h15,h⟩:=j4 h
 refine jk (ι:={ s // o14=D9.next s }) hn (fun s=>[]) (fun s=>[]) [] [] (fun _ A4 _ R4=>?_) ?_
 ·refine j5.blkQ fun _ _ E5 _ R5=>?_
  refine lq (ι:={ q:((List Ln)×Nat) // q.1=x10.lines.drop q.2∧aE7 N a3 q.1 q.2=some o14 }) hn (fun q=>[(32,.int (q.1.2:Int))]) (fun q=>[]) (fun q=>q.1.1.length) [(3,_),(30,_),(31,_)] [] ⟨(x10.lines,0),rfl,h15⟩ [] ?_
  rintro ⟨⟨rest_,k13⟩,hd17,h15⟩ _ A6 X6 R6
  replace hd17:rest_=x10.lines.drop k13:=hd17
  rcases rest_ with _|⟨x19,rest16⟩
  ·have hlt21:=N9 hd17
   replace h15:=(aE7.eq_1 _ _ _).symm.trans h15
   refine j6 hn ?_
   refine j5.seqQ fun _ _ X7 _=>?_
   refine p8 hn ?_
   refine d9 hlt21 ?_
   refine F6 hn ?_
   refine X7 _ _ _ ?_
   refine X6 _ _ _ ?_
   refine E5 _ _ ?_
   refine A4 _ _ ?_
   exact jn ⟨_,sj h15⟩ []
  ·obtain ⟨hx20,hd2,hlt21⟩:=H9 hd17
   replace h15:=(aE7.eq_2 _ _ _ _ _).symm.trans h15
   refine j6 hn ?_
   refine j5.seqQ fun _ A8 _ _=>?_
   refine p8 hn ?_
   refine j3 hlt21 ?_
   refine p9 hn ?_
   refine A8 _ _ ?_
   refine j5.seqQ fun _ A9 _ R9=>?_
   refine j5.blkQ fun _ A10 _ _ R10=>?_
   refine j6 hn ?_
   refine aJ1 hx20 ?_
   refine j6 hn ?_
   refine p8 hn ?_
   refine l5 h15 (fun hb22 h15=>?_) (fun hb22 h15=>?_)
   ·refine j6 hn ?_
    refine got hn ?_
    refine R10 _ _ ?_
    refine R9 _ _ ?_
    refine R6 _ _ ?_
    refine R5 _ _ ?_
    refine R4 _ _ ?_
    refine R3 _ _ ?_
    obtain rfl:=Option.some.inj h15
    obtain rfl:=Option.some.inj h
    exact ⟨[],_,fm⟩
   refine p9 hn ?_
   refine A10 _ _ ?_
   refine A9 _ _ ?_
   refine q8 hn ?_
   refine Or.inl (And.intro (aE3 hx20 hl12) ?_)
   refine A6 _ _ ?_
   exact jn ⟨(rest16,k13+1),hd2,h15⟩ [] (by show rest16.length < rest16.length+1; omega)
 rintro ⟨⟨⟩,rfl⟩
 refine A3 _ _ ?_
 refine j6 hn ?_
 refine got hn ?_
 obtain rfl:=Option.some.inj h
 exact ⟨[],_,fm⟩

/- slices.BinarySearchFunc[[]api.Method,api.Method,string] -/
set_option maxRecDepth 100000 in
set_option maxHeartbeats 8000000 in
theorem aB1 (N:Nat) (a0:(List Me)) (a1:ByteArray) (g2:Me→ByteArray→Option Int) {K2:Nat} (hg2:∀x0_ x1_ y_,g2 x0_ x1_=some y_→Spec Try.prog K2 [] [.agg (eMe x0_),.str x1_] (.int y_) [] []) (r:(Int×Bool)) (h:E9 N a0 a1 g2=some r):Spec Try.prog 67 [] [.sl 5 (List.map eMe a0),.str a1,.fn K2 []] (.tup [.int r.1,.bool r.2]) [] []:=by
 refine Spec.of z8 Try.func67 rfl Try.ntmps67 (by kernel_rfl) rfl rfl rfl fun Γ hn=>?_
 unfold E9 at h
 refine j6 hn ?_
 refine j6 hn ?_
 refine D5 (fun _=>?_)
 refine j6 hn ?_
 refine j5.seqQ fun _ A0 _ _=>?_
 obtain ⟨o8,h9,h⟩:=j4 h
 refine jk (ι:={ s // o8=s }) hn (fun s=>[(9,.int s.1)]) (fun s=>[]) [(0,_),(1,_),(2,_),(8,_)] [] (fun _ A1 _ _=>?_) ?_
 ·refine j5.blkQ fun _ _ E2 _ _=>?_
  refine lq (ι:={ q:(Nat×Int×Int) // y5 N a0 a1 g2 q.1 q.2.1 q.2.2=some o8 }) hn (fun q=>[(9,.int q.1.2.1),(10,.int q.1.2.2)]) (fun q=>[]) (fun q=>q.1.1) [(0,_),(1,_),(2,_),(8,_)] [] ⟨(N,(0:Int),(a0.length:Int)),h9⟩ [] ?_
  rintro ⟨⟨n_,v3,v4⟩,h9⟩ _ A3 X3 _
  rcases n_ with _|n12
  ·rw [y5.eq_1] at h9
   cases h9
  ·replace h9:=(y5.eq_2 _ _ _ _ _ _ _).symm.trans h9
   refine j5.seqQ fun _ A4 X4 _=>?_
   refine j6 hn ?_
   refine p8 hn ?_
   refine l5 h9 (fun hb13 h9=>?_) (fun hb13 h9=>?_)
   ·refine p9 hn ?_
    refine A4 _ _ ?_
    obtain ⟨o17,h16,h9⟩:=j4 h9
    refine jk (ι:={ s // o17=s }) hn (fun s=>[(9,.int s.1.1),(10,.int s.1.2)]) (fun s=>[]) [(0,_),(1,_),(2,_),(8,_)] [] (fun _ A5 _ _=>?_) ?_
    ·refine j5.blkQ fun _ A6 _ _ _=>?_
     refine j6 hn ?_
     refine Or.inr ?_
     obtain ⟨hg18,h16⟩:=G5 h16
     refine cV6 hg18 ?_
     refine And.intro rfl ?_
     refine And.intro rfl ?_
     obtain ⟨hg19,h16⟩:=G5 h16
     refine cV6 hg19 ?_
     refine j6 hn ?_
     obtain ⟨x20,hx21,h16⟩:=j4 h16
     refine V5 hx21 ?_
     obtain ⟨r22,hr23,h16⟩:=j4 h16
     show l8 Try.prog _ _ _ _
     refine cA (hg2 _ _ _ hr23) ?_
     obtain ⟨o27,h26,h16⟩:=j4 h16
     refine jk (ι:={ s // o27=s }) hn (fun s=>[(9,.int s.1.1),(10,.int s.1.2)]) (fun s=>[]) [(0,_),(1,_),(2,_),(8,_)] [] (fun _ A7 _ _=>?_) ?_
     ·refine p8 hn ?_
      refine l5 h26 (fun hb28 h26=>?_) (fun hb28 h26=>?_)
      ·refine kp [(0,_),(1,_),(2,_),(8,_),(10,_),(11,_)] [] ?_
       refine q8 hn ?_
       refine Or.inr ?_
       refine A7 _ _ ?_
       exact jn ⟨_,sj h26⟩ []
      refine kp [(0,_),(1,_),(2,_),(8,_),(9,_),(11,_)] [] ?_
      refine q8 hn ?_
      refine A7 _ _ ?_
      exact jn ⟨_,sj h26⟩ []
     rintro ⟨⟨v24,v25⟩,rfl⟩
     refine A6 _ _ ?_
     refine A5 _ _ ?_
     exact jn ⟨_,sj h16⟩ []
    rintro ⟨⟨v14,v15⟩,rfl⟩
    refine A3 _ _ ?_
    exact jn ⟨(n12,v14,v15),h9⟩ [] (by show n12 < n12+1; omega)
   refine F6 hn ?_
   refine X4 _ _ _ ?_
   refine X3 _ _ _ ?_
   refine E2 _ _ ?_
   refine A1 _ _ ?_
   exact jn ⟨_,sj h9⟩ []
 rintro ⟨v7,hv_⟩
 replace hv_:=hv_.symm
 subst hv_
 refine A0 _ _ ?_
 refine j5.seqQ fun _ A8 _ _=>?_
 obtain ⟨o31,h30,h⟩:=j4 h
 refine jk (ι:={ s // o31=s }) hn (fun s=>[(6,.int v7),(7,.bool s.1)]) (fun s=>[]) [] [] (fun _ A9 _ _=>?_) ?_
 ·refine q8 hn ?_
  refine l5 h30 (fun hb32 h30=>?_) (fun hb32 h30=>?_)
  ·refine j3 hb32 ?_
   refine j3 hb32 ?_
   refine j3 hb32 ?_
   obtain ⟨x33,hx34,h30⟩:=j4 h30
   refine V5 hx34 ?_
   refine j3 hb32 ?_
   refine j3 hb32 ?_
   refine j3 hb32 ?_
   obtain ⟨r35,hr36,h30⟩:=j4 h30
   show l8 Try.prog _ _ _ _
   refine cA (hg2 _ _ _ hr36) ?_
   refine j3 hb32 ?_
   refine j3 hb32 ?_
   refine A9 _ _ ?_
   exact jn ⟨_,sj h30⟩ []
  refine d9 hb32 ?_
  refine d9 hb32 ?_
  refine d9 hb32 ?_
  refine d9 hb32 ?_
  refine d9 hb32 ?_
  refine d9 hb32 ?_
  refine d9 hb32 ?_
  refine d9 hb32 ?_
  refine A9 _ _ ?_
  exact jn ⟨_,sj h30⟩ []
 rintro ⟨v29,hv_⟩
 replace hv_:=hv_.symm
 subst hv_
 refine A8 _ _ ?_
 refine got hn ?_
 obtain rfl:=Option.some.inj h
 exact ⟨[],_,fm⟩

/- cmp.isNaN[string] -/
set_option maxRecDepth 100000 in
set_option maxHeartbeats 8000000 in
theorem aU9 (N:Nat) (a0:ByteArray) (r:Bool) (h:cmp_isNaN_string N a0=some r):Spec Try.prog 120 [] [.str a0] (.bool r) [] []:=by
 refine Spec.of z8 Try.func120 rfl Try.ntmps120 (by kernel_rfl) rfl rfl rfl fun Γ hn=>?_
 unfold cmp_isNaN_string at h
 refine j6 hn ?_
 refine j6 hn ?_
 refine got hn ?_
 obtain rfl:=Option.some.inj h
 exact ⟨[],_,fm⟩

/- cmp.Compare[string] -/
set_option maxRecDepth 100000 in
set_option maxHeartbeats 8000000 in
theorem bE6 (N:Nat) (a0:ByteArray) (a1:ByteArray) (r:Int) (h:aH2 N a0 a1=some r):Spec Try.prog 91 [] [.str a0,.str a1] (.int r) [] []:=by
 refine Spec.of z8 Try.func91 rfl Try.ntmps91 (by kernel_rfl) rfl rfl rfl fun Γ hn=>?_
 unfold aH2 at h
 refine j6 hn ?_
 refine j6 hn ?_
 obtain ⟨r1,hr2,h⟩:=j4 h
 show l8 Try.prog _ _ _ _
 refine cA (aU9 N a0 r1 hr2) ?_
 refine j6 hn ?_
 obtain ⟨r3,hr4,h⟩:=j4 h
 show l8 Try.prog _ _ _ _
 refine cA (aU9 N a1 r3 hr4) ?_
 refine j5.seqQ fun _ A0 _ R0=>?_
 refine j6 hn ?_
 refine p8 hn ?_
 refine l5 h (fun hb5 h=>?_) (fun hb5 h=>?_)
 ·refine j5.seqQ fun _ A1 _ R1=>?_
  refine j6 hn ?_
  refine p8 hn ?_
  refine l5 h (fun hb6 h=>?_) (fun hb6 h=>?_)
  ·refine j6 hn ?_
   refine got hn ?_
   refine R1 _ _ ?_
   refine R0 _ _ ?_
   obtain rfl:=Option.some.inj h
   exact ⟨[],_,fm⟩
  refine p9 hn ?_
  refine A1 _ _ ?_
  refine j6 hn ?_
  refine got hn ?_
  refine R0 _ _ ?_
  obtain rfl:=Option.some.inj h
  exact ⟨[],_,fm⟩
 refine p9 hn ?_
 refine A0 _ _ ?_
 refine j5.seqQ fun _ A2 _ R2=>?_
 refine j6 hn ?_
 refine p8 hn ?_
 refine l5 h (fun hb7 h=>?_) (fun hb7 h=>?_)
 ·refine j6 hn ?_
  refine got hn ?_
  refine R2 _ _ ?_
  obtain rfl:=Option.some.inj h
  exact ⟨[],_,fm⟩
 refine p9 hn ?_
 refine A2 _ _ ?_
 refine j5.seqQ fun _ A3 _ R3=>?_
 refine j6 hn ?_
 refine p8 hn ?_
 refine l5 h (fun hb8 h=>?_) (fun hb8 h=>?_)
 ·refine j6 hn ?_
  refine got hn ?_
  refine R3 _ _ ?_
  obtain rfl:=Option.some.inj h
  exact ⟨[],_,fm⟩
 refine p9 hn ?_
 refine A3 _ _ ?_
 refine j5.seqQ fun _ A4 _ R4=>?_
 refine j6 hn ?_
 refine p8 hn ?_
 refine l5 h (fun hb9 h=>?_) (fun hb9 h=>?_)
 ·refine kp [] [] ?_
  refine j6 hn ?_
  refine got hn ?_
  refine R4 _ _ ?_
  obtain rfl:=Option.some.inj h
  exact ⟨[],_,fm⟩
 refine p9 hn ?_
 refine A4 _ _ ?_
 refine kp [] [] ?_
 refine j6 hn ?_
 refine got hn ?_
 obtain rfl:=Option.some.inj h
 exact ⟨[],_,fm⟩

/- class.order -/
set_option maxRecDepth 100000 in
set_option maxHeartbeats 8000000 in
theorem b28 (N:Nat) (a0:Me) (a1:ByteArray) (r:Int) (h:aB0 N a0 a1=some r):Spec Try.prog 64 [] [.agg (eMe a0),.str a1] (.int r) [] []:=by
 refine Spec.of z8 Try.func64 rfl Try.ntmps64 (by kernel_rfl) rfl rfl rfl fun Γ hn=>?_
 unfold aB0 at h
 refine j6 hn ?_
 refine j6 hn ?_
 obtain ⟨r1,hr2,h⟩:=j4 h
 show l8 Try.prog _ _ _ _
 refine cA (bE6 N a0.name a1 r1 hr2) ?_
 refine got hn ?_
 obtain rfl:=Option.some.inj h
 exact ⟨[],_,fm⟩

/- class.Find -/
set_option maxRecDepth 100000 in
set_option maxHeartbeats 8000000 in
theorem aZ7 (N:Nat) (a0:Wd) (a1:Int) (a2:ByteArray) (r:(Int×Int)) (h:aG5 N a0 a1 a2=some r):Spec Try.prog 30 [] [.agg (eWd a0),.int a1,.str a2] (.tup [.int r.1,.int r.2]) [] []:=by
 refine Spec.of z8 Try.func30 rfl Try.ntmps30 (by kernel_rfl) rfl rfl rfl fun Γ hn=>?_
 unfold aG5 at h
 refine j6 hn ?_
 refine j5.seqQ fun _ A0 _ R0=>?_
 refine j6 hn ?_
 obtain ⟨o6,h7,h⟩:=j4 h
 refine jk (ι:={ s // o6=D9.next s }) hn (fun s=>[]) (fun s=>[]) [] [] (fun _ A1 _ R1=>?_) ?_
 ·refine j5.blkQ fun _ _ E2 _ R2=>?_
  refine lq (ι:={ q:(Nat×Int×Int) // Z4 N a0 a2 q.1 q.2.1 q.2.2=some o6 }) hn (fun q=>[(1,.int q.1.2.1),(8,.int q.1.2.2)]) (fun q=>[]) (fun q=>q.1.1) [(2,_),(3,_)] [(3,_)] ⟨(N,a1,(0:Int)),h7⟩ [] ?_
  rintro ⟨⟨n_,v2,v3⟩,h7⟩ _ A3 X3 R3
  rcases n_ with _|n10
  ·rw [Z4.eq_1] at h7
   cases h7
  ·replace h7:=(Z4.eq_2 _ _ _ _ _ _).symm.trans h7
   refine j5.seqQ fun _ A4 X4 _=>?_
   refine j5.seqQ fun _ A5 _ _=>?_
   obtain ⟨o13,h12,h7⟩:=j4 h7
   refine jk (ι:={ s // o13=s }) hn (fun s=>[(26,.bool s.1)]) (fun s=>[]) [(1,_),(2,_),(3,_),(8,_)] [(3,_)] (fun _ A6 _ _=>?_) ?_
   ·refine q8 hn ?_
    refine l5 h12 (fun hb14 h12=>?_) (fun hb14 h12=>?_)
    ·refine j3 hb14 ?_
     refine j3 hb14 ?_
     refine j3 hb14 ?_
     refine D5 (fun _=>?_)
     refine j3 hb14 ?_
     refine j3 hb14 ?_
     refine l5 h12 (fun hb16 h12=>?_) (fun hb16 h12=>?_)
     ·refine j3 hb16 ?_
      refine j3 hb16 ?_
      refine j3 hb16 ?_
      refine D5 (fun _=>?_)
      refine j3 hb16 ?_
      refine j3 hb16 ?_
      refine A6 _ _ ?_
      exact jn ⟨_,sj h12⟩ []
     refine d9 hb16 ?_
     refine d9 hb16 ?_
     refine d9 hb16 ?_
     refine d9 hb16 ?_
     refine d9 hb16 ?_
     refine A6 _ _ ?_
     exact jn ⟨_,sj h12⟩ []
    refine d9 hb14 ?_
    refine d9 hb14 ?_
    refine d9 hb14 ?_
    refine d9 hb14 ?_
    refine d9 hb14 ?_
    refine A6 _ _ ?_
    exact jn ⟨_,sj h12⟩ []
   rintro ⟨v11,hv_⟩
   replace hv_:=hv_.symm
   subst hv_
   refine A5 _ _ ?_
   refine p8 hn ?_
   refine l5 h7 (fun hb18 h7=>?_) (fun hb18 h7=>?_)
   ·refine p9 hn ?_
    refine A4 _ _ ?_
    refine j5.seqQ fun _ A7 _ R7=>?_
    refine j5.blkQ fun _ A8 _ _ R8=>?_
    refine j5.seqQ fun _ A9 _ R9=>?_
    refine j6 hn ?_
    obtain ⟨x19,hx20,h7⟩:=j4 h7
    refine V5 hx20 ?_
    obtain ⟨r21,hr22,h7⟩:=j4 h7
    show l8 Try.prog _ _ _ _
    refine cA (aB1 N x19.methods a2 (fun x0_ x1_=>aB0 N x0_ x1_) (fun x0_ x1_ y_ hy_=>b28 N x0_ x1_ y_ hy_) r21 hr22) ?_
    refine kp [(1,_),(2,_),(3,_),(8,_),(9,_),(10,_)] [(3,_)] ?_
    refine j6 hn ?_
    refine p8 hn ?_
    refine l5 h7 (fun hb23 h7=>?_) (fun hb23 h7=>?_)
    ·refine j6 hn ?_
     refine got hn ?_
     refine R9 _ _ ?_
     refine R8 _ _ ?_
     refine R7 _ _ ?_
     refine R3 _ _ ?_
     refine R2 _ _ ?_
     refine R1 _ _ ?_
     refine R0 _ _ ?_
     obtain rfl:=Option.some.inj h7
     obtain rfl:=Option.some.inj h
     exact ⟨[],_,fm⟩
    refine p9 hn ?_
    refine A9 _ _ ?_
    refine q8 hn ?_
    obtain ⟨x24,hx25,h7⟩:=j4 h7
    refine V5 hx25 ?_
    refine A8 _ _ ?_
    refine A7 _ _ ?_
    refine q8 hn ?_
    refine Or.inr ?_
    refine A3 _ _ ?_
    exact jn ⟨(n10,x24.super,(wr (v3+(1:Int)))),h7⟩ [] (by show n10 < n10+1; omega)
   refine F6 hn ?_
   refine X4 _ _ _ ?_
   refine X3 _ _ _ ?_
   refine E2 _ _ ?_
   refine A1 _ _ ?_
   exact jn ⟨_,sj h7⟩ []
 rintro ⟨⟨⟩,rfl⟩
 refine A0 _ _ ?_
 refine j6 hn ?_
 refine got hn ?_
 obtain rfl:=Option.some.inj h
 exact ⟨[],_,fm⟩

/- cells.Find -/
set_option maxRecDepth 100000 in
set_option maxHeartbeats 8000000 in
theorem b83 (N:Nat) (a0:(List Ce)) (a1:Wd) (a2:St) (a3:Int) (a4:ByteArray) (r:((List Ce)×Int×Int×Bool)) (h:aU5 N a0 a1 a2 a3 a4=some r):Spec Try.prog 39 [] [.sl 6 (List.map eCe a0),.agg (eWd a1),.agg (eSt a2),.int a3,.str a4] (.tup [.own 0,.int r.2.1,.int r.2.2.1,.bool r.2.2.2]) [(0,.row 6 (List.map eCe r.1) 31)] [0]:=by
 refine Spec.of z8 Try.func39 rfl Try.ntmps39 (by kernel_rfl) rfl rfl rfl fun Γ hn=>?_
 unfold aU5 at h
 refine j6 hn ?_
 refine j5.seqQ fun _ A0 _ R0=>?_
 refine j6 hn ?_
 obtain ⟨r1,hr2,h⟩:=j4 h
 show l8 Try.prog _ _ _ _
 refine cA (cG3 N a0 a2 a1.epoch a3 r1 hr2) ?_
 refine j5.seqQ fun _ A1 _ _=>?_
 obtain ⟨o5,h4,h⟩:=j4 h
 refine jk (ι:={ s // o5=s }) hn (fun s=>[(33,.bool s.1)]) (fun s=>[]) [(0,_),(3,_),(4,_),(6,_),(7,_),(14,_)] [(6,_),(7,_)] (fun _ A2 _ _=>?_) ?_
 ·refine kp [(0,_),(3,_),(4,_),(6,_),(7,_),(14,_)] [(6,_),(7,_)] ?_
  refine q8 hn ?_
  refine l5 h4 (fun hb6 h4=>?_) (fun hb6 h4=>?_)
  ·refine j3 hb6 ?_
   refine j3 hb6 ?_
   refine j3 hb6 ?_
   refine D5 (fun _=>?_)
   refine j3 hb6 ?_
   refine j3 hb6 ?_
   refine A2 _ _ ?_
   exact jn ⟨_,sj h4⟩ []
  refine d9 hb6 ?_
  refine d9 hb6 ?_
  refine d9 hb6 ?_
  refine d9 hb6 ?_
  refine d9 hb6 ?_
  refine A2 _ _ ?_
  exact jn ⟨_,sj h4⟩ []
 rintro ⟨v3,hv_⟩
 replace hv_:=hv_.symm
 subst hv_
 refine A1 _ _ ?_
 refine p8 hn ?_
 refine l5 h (fun hb8 h=>?_) (fun hb8 h=>?_)
 ·refine j6 hn ?_
  obtain ⟨r9,hr10,h⟩:=j4 h
  show l8 Try.prog _ _ _ _
  refine cA (aZ7 N a1 r1 a4 r9 hr10) ?_
  refine j6 hn ?_
  obtain ⟨r11,hr12,h⟩:=j4 h
  show l8 Try.prog _ _ _ _
  refine cA ((bA4 N a0 r11 hr12).sw 0 42) ?_
  refine got hn ?_
  refine R0 _ _ ?_
  obtain rfl:=Option.some.inj h
  exact ⟨[(0,42)],_,fm⟩
 refine p9 hn ?_
 refine A0 _ _ ?_
 refine j6 hn ?_
 obtain ⟨r13,hr14,h⟩:=j4 h
 show l8 Try.prog _ _ _ _
 refine cA (aZ7 N a1 a3 a4 r13 hr14) ?_
 refine j5.seqQ fun _ A3 _ R3=>?_
 refine j6 hn ?_
 refine p8 hn ?_
 refine l5 h (fun hb15 h=>?_) (fun hb15 h=>?_)
 ·refine kp [(0,_),(17,_),(18,_)] [] ?_
  refine j6 hn ?_
  obtain ⟨r16,hr17,h⟩:=j4 h
  show l8 Try.prog _ _ _ _
  refine cA ((bA4 N a0 r16 hr17).sw 0 55) ?_
  refine got hn ?_
  refine R3 _ _ ?_
  obtain rfl:=Option.some.inj h
  exact ⟨[(0,55)],_,fm⟩
 refine p9 hn ?_
 refine A3 _ _ ?_
 refine kp [(0,_),(3,_),(6,_),(7,_),(17,_),(18,_)] [(6,_),(7,_)] ?_
 refine j6 hn ?_
 obtain ⟨r18,hr19,h⟩:=j4 h
 show l8 Try.prog _ _ _ _
 refine cA ((cA9 N a0 a2 a1.epoch a3 r13.1 r18 hr19).sw 0 64) ?_
 refine got hn ?_
 obtain rfl:=Option.some.inj h
 exact ⟨[(0,64)],_,fm⟩

/- qcref1.Name -/
set_option maxRecDepth 100000 in
set_option maxHeartbeats 8000000 in
theorem aP3 (N:Nat) (a0:ByteArray) (r:Bool) (h:aD6 N a0=some r):Spec Try.prog 27 [] [.str a0] (.bool r) [] []:=by
 refine Spec.of z8 Try.func27 rfl Try.ntmps27 (by kernel_rfl) rfl rfl rfl fun Γ hn=>?_
 unfold aD6 at h
 refine j6 hn ?_
 refine j5.seqQ fun _ A0 _ R0=>?_
 refine j6 hn ?_
 intro _
 refine j5.rng 5 rfl (fun hrn=>?_)
 obtain ⟨o3,h4,h⟩:=j4 h
 refine jk (ι:={ s // o3=D9.next s }) hn (fun s=>[]) (fun s=>[]) [(0,_)] [] (fun _ A1 _ R1=>?_) ?_
 ·refine j5.blkQ fun _ _ E2 _ R2=>?_
  refine lq (ι:={ q:(Nat×Nat) // q.1=((a0.size:Int) - (q.2:Int)).toNat∧aA5 N a0 q.1 q.2=some o3 }) hn (fun q=>[(6,.int (q.1.2:Int))]) (fun q=>[]) (fun q=>q.1.1) [(0,_),(5,_)] [] ⟨(((a0.size:Int) - ((0:Nat):Int)).toNat,0),rfl,h4⟩ [] ?_
  rintro ⟨⟨n_,k2⟩,hd6,h4⟩ _ A3 X3 R3
  replace hd6:n_=((a0.size:Int) - (k2:Int)).toNat:=hd6
  rcases n_ with _|n7
  ·have hlt10:=cJ8 hd6
   replace h4:=(aA5.eq_1 _ _ _).symm.trans h4
   refine j6 hn ?_
   refine j5.seqQ fun _ _ X4 _=>?_
   refine p8 hn ?_
   refine d9 hlt10 ?_
   refine F6 hn ?_
   refine X4 _ _ _ ?_
   refine X3 _ _ _ ?_
   refine E2 _ _ ?_
   refine A1 _ _ ?_
   exact jn ⟨_,sj h4⟩ []
  ·obtain ⟨hd2,hlt10⟩:=cD8 hd6
   replace h4:=(aA5.eq_2 _ _ _ _).symm.trans h4
   refine j6 hn ?_
   refine j5.seqQ fun _ A5 _ _=>?_
   refine p8 hn ?_
   refine j3 hlt10 ?_
   refine p9 hn ?_
   refine A5 _ _ ?_
   refine j5.seqQ fun _ A6 _ R6=>?_
   refine j5.blkQ fun _ A7 _ _ R7=>?_
   refine j6 hn ?_
   refine j5.seqQ fun _ A8 _ _=>?_
   obtain ⟨o13,h12,h4⟩:=j4 h4
   refine jk (ι:={ s // o13=s }) hn (fun s=>[(18,.bool s.1)]) (fun s=>[]) [(0,_),(5,_),(6,_)] [] (fun _ A9 _ _=>?_) ?_
   ·refine q8 hn ?_
    obtain ⟨u14,hx15,h12⟩:=j4 h12
    refine byM hx15 ?_
    refine And.intro rfl ?_
    refine l5 h12 (fun hb16 h12=>?_) (fun hb16 h12=>?_)
    ·refine j3 hb16 ?_
     refine j3 hb16 ?_
     refine j3 hb16 ?_
     refine j3 hb16 ?_
     refine A9 _ _ ?_
     exact jn ⟨_,sj h12⟩ []
    refine d9 hb16 ?_
    refine d9 hb16 ?_
    obtain ⟨u17,hx18,h12⟩:=j4 h12
    refine byM hx18 ?_
    refine d9 hb16 ?_
    refine And.intro rfl ?_
    refine d9 hb16 ?_
    refine A9 _ _ ?_
    exact jn ⟨_,sj h12⟩ []
   rintro ⟨v11,hv_⟩
   replace hv_:=hv_.symm
   subst hv_
   refine A8 _ _ ?_
   refine p8 hn ?_
   refine l5 h4 (fun hb19 h4=>?_) (fun hb19 h4=>?_)
   ·refine j6 hn ?_
    refine got hn ?_
    refine R7 _ _ ?_
    refine R6 _ _ ?_
    refine R3 _ _ ?_
    refine R2 _ _ ?_
    refine R1 _ _ ?_
    refine R0 _ _ ?_
    obtain rfl:=Option.some.inj h4
    obtain rfl:=Option.some.inj h
    exact ⟨[],_,fm⟩
   refine p9 hn ?_
   refine A7 _ _ ?_
   refine A6 _ _ ?_
   refine q8 hn ?_
   refine Or.inl (And.intro (cU3 hlt10 hrn) ?_)
   refine A3 _ _ ?_
   exact jn ⟨(n7,k2+1),hd2,h4⟩ [] (by show n7 < n7+1; omega)
 rintro ⟨⟨⟩,rfl⟩
 refine A0 _ _ ?_
 refine j5.seqQ fun _ A10 _ _=>?_
 obtain ⟨o22,h21,h⟩:=j4 h
 refine jk (ι:={ s // o22=s }) hn (fun s=>[(2,.bool s.1)]) (fun s=>[]) [] [] (fun _ A11 _ _=>?_) ?_
 ·refine q8 hn ?_
  intro _
  refine l5 h21 (fun hb24 h21=>?_) (fun hb24 h21=>?_)
  ·refine j3 hb24 ?_
   intro _
   refine j3 hb24 ?_
   refine j3 hb24 ?_
   refine A11 _ _ ?_
   exact jn ⟨_,sj h21⟩ []
  refine d9 hb24 ?_
  refine d9 hb24 ?_
  refine d9 hb24 ?_
  refine A11 _ _ ?_
  exact jn ⟨_,sj h21⟩ []
 rintro ⟨v20,hv_⟩
 replace hv_:=hv_.symm
 subst hv_
 refine A10 _ _ ?_
 refine got hn ?_
 obtain rfl:=Option.some.inj h
 exact ⟨[],_,fm⟩

/- qcref1.Ups -/
set_option maxRecDepth 100000 in
set_option maxHeartbeats 8000000 in
theorem b75 (N:Nat) (a0:Wd) (a1:Int) (r:(List Int)) (h:aU8 N a0 a1=some r):Spec Try.prog 66 [] [.agg (eWd a0),.int a1] (.own 0) [(0,.row 1 (List.map U2 r) 3)] [0]:=by
 refine Spec.of z8 Try.func66 rfl Try.ntmps66 (by kernel_rfl) rfl rfl rfl fun Γ hn=>?_
 unfold aU8 at h
 refine j6 hn ?_
 refine j6 hn ?_
 refine j5.seqQ fun _ A0 _ _=>?_
 refine j5.nilrow 5 205 1 3 rfl rfl rfl ?_
 obtain ⟨o7,h8,h⟩:=j4 h
 refine jk (ι:={ s // o7=s }) hn (fun s=>[]) (fun s=>[(205,.row 1 (List.map U2 s.1) 3)]) [(5,_)] [] (fun _ A1 _ _=>?_) ?_
 ·refine j5.blkQ fun _ _ E2 _ _=>?_
  refine lq (ι:={ q:(Nat×Int×(List Int)) // aC7 N a0 q.1 q.2.1 q.2.2=some o7 }) hn (fun q=>[(1,.int q.1.2.1)]) (fun q=>[(205,.row 1 (List.map U2 q.1.2.2) 3)]) (fun q=>q.1.1) [(2,_),(5,_)] [(2,_)] ⟨(N,a1,([]:List Int)),h8⟩ [] ?_
  rintro ⟨⟨n_,v2,v3⟩,h8⟩ _ A3 X3 _
  rcases n_ with _|n11
  ·rw [aC7.eq_1] at h8
   cases h8
  ·replace h8:=(aC7.eq_2 _ _ _ _ _).symm.trans h8
   refine j5.seqQ fun _ A4 X4 _=>?_
   refine j5.seqQ fun _ A5 _ _=>?_
   obtain ⟨o14,h13,h8⟩:=j4 h8
   refine jk (ι:={ s // o14=s }) hn (fun s=>[(22,.bool s.1)]) (fun s=>[]) [(1,_),(2,_),(5,_)] [(2,_),(205,_)] (fun _ A6 _ _=>?_) ?_
   ·refine q8 hn ?_
    refine l5 h13 (fun hb15 h13=>?_) (fun hb15 h13=>?_)
    ·refine j3 hb15 ?_
     refine j3 hb15 ?_
     refine j3 hb15 ?_
     refine D5 (fun _=>?_)
     refine j3 hb15 ?_
     refine j3 hb15 ?_
     refine l5 h13 (fun hb17 h13=>?_) (fun hb17 h13=>?_)
     ·refine j3 hb17 ?_
      refine D5 (fun _=>?_)
      refine j3 hb17 ?_
      refine j3 hb17 ?_
      refine j3 hb17 ?_
      refine D5 (fun _=>?_)
      refine j3 hb17 ?_
      refine j3 hb17 ?_
      refine A6 _ _ ?_
      exact jn ⟨_,sj h13⟩ []
     refine d9 hb17 ?_
     refine d9 hb17 ?_
     refine d9 hb17 ?_
     refine d9 hb17 ?_
     refine d9 hb17 ?_
     refine d9 hb17 ?_
     refine A6 _ _ ?_
     exact jn ⟨_,sj h13⟩ []
    refine d9 hb15 ?_
    refine d9 hb15 ?_
    refine d9 hb15 ?_
    refine d9 hb15 ?_
    refine d9 hb15 ?_
    refine A6 _ _ ?_
    exact jn ⟨_,sj h13⟩ []
   rintro ⟨v12,hv_⟩
   replace hv_:=hv_.symm
   subst hv_
   refine A5 _ _ ?_
   refine p8 hn ?_
   refine l5 h8 (fun hb20 h8=>?_) (fun hb20 h8=>?_)
   ·refine p9 hn ?_
    refine A4 _ _ ?_
    refine j5.blkQ fun _ A7 _ _ _=>?_
    refine j6 hn ?_
    refine Exists.intro (List.map U2 [v2]) (And.intro (by repeat (first|exact trivial|exact rfl|(refine And.intro ?_ ?_))) ?_)
    obtain ⟨hg21,h8⟩:=G5 h8
    refine aJ7 (l2:=[v2]) hg21 (D8 _) ?_
    refine q8 hn ?_
    obtain ⟨x22,hx23,h8⟩:=j4 h8
    refine V5 hx23 ?_
    refine A7 _ _ ?_
    refine A3 _ _ ?_
    exact jn ⟨(n11,x22.super,(v3++[v2])),h8⟩ [(205,26)] (by show n11 < n11+1; omega)
   refine F6 hn ?_
   refine X4 _ _ _ ?_
   refine X3 _ _ _ ?_
   refine E2 _ _ ?_
   refine A1 _ _ ?_
   exact jn ⟨_,sj h8⟩ []
 rintro ⟨v6,hv_⟩
 replace hv_:=hv_.symm
 subst hv_
 refine A0 _ _ ?_
 refine j6 hn ?_
 refine got hn ?_
 obtain rfl:=Option.some.inj h
 exact ⟨[(0,205)],_,fm⟩

/- qcref1.Slots -/
set_option maxRecDepth 100000 in
set_option maxHeartbeats 8000000 in
theorem aG8 (N:Nat) (a0:Wd) (a1:Int) (r:Int) (h:X0 N a0 a1=some r):Spec Try.prog 29 [] [.agg (eWd a0),.int a1] (.int r) [] []:=by
 refine Spec.of z8 Try.func29 rfl Try.ntmps29 (by kernel_rfl) rfl rfl rfl fun Γ hn=>?_
 unfold X0 at h
 refine j6 hn ?_
 refine j6 hn ?_
 refine j5.seqQ fun _ A0 _ _=>?_
 refine j6 hn ?_
 obtain ⟨r1,hr2,h⟩:=j4 h
 show l8 Try.prog _ _ _ _
 refine cA ((b75 N a0 a1 r1 hr2).sw 0 10) ?_
 refine D5 (fun hl3=>?_)
 obtain ⟨o8,h9,h⟩:=j4 h
 refine jk (ι:={ s // o8=s }) hn (fun s=>[(5,.int s.1)]) (fun s=>[]) [] [] (fun _ A1 _ _=>?_) ?_
 ·refine j5.blkQ fun _ _ E2 _ _=>?_
  refine lq (ι:={ q:((List Int)×Nat×Int) // q.1=r1.drop q.2.1∧Y3 N a0 r1 q.1 q.2.1 q.2.2=some o8 }) hn (fun q=>[(5,.int q.1.2.2),(12,.int (q.1.2.1:Int))]) (fun q=>[]) (fun q=>q.1.1.length) [(2,_),(10,_),(11,_)] [(2,_),(10,_)] ⟨(r1,0,(0:Int)),rfl,h9⟩ [] ?_
  rintro ⟨⟨rest_,k4,v5⟩,hd11,h9⟩ _ A3 X3 _
  replace hd11:rest_=r1.drop k4:=hd11
  rcases rest_ with _|⟨x13,rest10⟩
  ·have hlt15:=N9 hd11
   replace h9:=(Y3.eq_1 _ _ _ _ _).symm.trans h9
   refine j6 hn ?_
   refine j5.seqQ fun _ _ X4 _=>?_
   refine p8 hn ?_
   refine d9 hlt15 ?_
   refine F6 hn ?_
   refine X4 _ _ _ ?_
   refine X3 _ _ _ ?_
   refine E2 _ _ ?_
   refine A1 _ _ ?_
   exact jn ⟨_,sj h9⟩ []
  ·obtain ⟨hx14,hd2,hlt15⟩:=H9 hd11
   replace h9:=(Y3.eq_2 _ _ _ _ _ _ _).symm.trans h9
   refine j6 hn ?_
   refine j5.seqQ fun _ A5 _ _=>?_
   refine p8 hn ?_
   refine j3 hlt15 ?_
   refine p9 hn ?_
   refine A5 _ _ ?_
   refine j5.seqQ fun _ A6 _ _=>?_
   refine j5.blkQ fun _ A7 _ _ _=>?_
   refine j6 hn ?_
   obtain ⟨x16,hx17,h9⟩:=j4 h9
   refine aE6 hx17 ?_
   refine Y8 (C8 hx17).2 ?_
   refine q8 hn ?_
   obtain ⟨x18,hx19,h9⟩:=j4 h9
   refine V5 hx19 ?_
   refine Or.inr ?_
   refine A7 _ _ ?_
   refine A6 _ _ ?_
   refine kp [(2,_),(5,_),(10,_),(11,_),(12,_)] [(2,_),(10,_)] ?_
   refine q8 hn ?_
   refine Or.inl (And.intro (aE3 hx14 hl3) ?_)
   refine A3 _ _ ?_
   exact jn ⟨(rest10,k4+1,(wr (v5+x18.slots))),hd2,h9⟩ [] (by show rest10.length < rest10.length+1; omega)
 rintro ⟨v7,hv_⟩
 replace hv_:=hv_.symm
 subst hv_
 refine A0 _ _ ?_
 refine j6 hn ?_
 refine got hn ?_
 obtain rfl:=Option.some.inj h
 exact ⟨[],_,fm⟩

/- qcref1.Numbers -/
set_option maxRecDepth 100000 in
set_option maxHeartbeats 8000000 in
theorem bR0 (N:Nat) (a0:Wd) (a1:Int) (a2:Me) (a3:Ins) (r:Int) (h:J9 N a0 a1 a2 a3=some r):Spec Try.prog 76 [] [.agg (eWd a0),.int a1,.agg (eMe a2),.agg (aO2 a3)] (.int r) [] []:=by
 refine Spec.of z8 Try.func76 rfl Try.ntmps76 (by kernel_rfl) rfl rfl rfl fun Γ hn=>?_
 unfold J9 at h
 refine j6 hn ?_
 refine j6 hn ?_
 refine j5.seqQ fun _ A0 _ R0=>?_
 refine j6 hn ?_
 obtain ⟨o4,h3,h⟩:=j4 h
 refine jk (ι:={ s // o4=D9.next s }) hn (fun s=>[(9,.int s.1.1),(10,.int s.1.2)]) (fun s=>[]) [(7,_)] [(7,_)] (fun _ A1 _ R1=>?_) ?_
 ·refine j5.blkQ fun _ A2 _ _ R2=>?_
  refine j5.seqQ fun _ A3 _ _=>?_
  refine j6 hn ?_
  obtain ⟨o7,h6,h3⟩:=j4 h3
  refine jk (ι:={ s // o7=s }) hn (fun s=>[(13,.bool s.1)]) (fun s=>[]) [(1,_),(4,_),(6,_),(7,_),(9,_),(10,_),(12,_)] [(4,_),(6,_),(7,_)] (fun _ A4 _ _=>?_) ?_
  ·refine p8 hn ?_
   refine l5 h6 (fun hb8 h6=>?_) (fun hb8 h6=>?_)
   ·refine p9 hn ?_
    refine A4 _ _ ?_
    exact jn ⟨_,sj h6⟩ []
   refine j6 hn ?_
   obtain ⟨o11,h10,h6⟩:=j4 h6
   refine jk (ι:={ s // o11=s }) hn (fun s=>[(13,.bool s.1)]) (fun s=>[]) [(1,_),(4,_),(6,_),(7,_),(9,_),(10,_),(12,_)] [(4,_),(6,_),(7,_)] (fun _ A5 _ _=>?_) ?_
   ·refine p8 hn ?_
    refine l5 h10 (fun hb12 h10=>?_) (fun hb12 h10=>?_)
    ·refine p9 hn ?_
     refine A5 _ _ ?_
     exact jn ⟨_,sj h10⟩ []
    refine j6 hn ?_
    obtain ⟨o15,h14,h10⟩:=j4 h10
    refine jk (ι:={ s // o15=s }) hn (fun s=>[(13,.bool s.1)]) (fun s=>[]) [(1,_),(4,_),(6,_),(7,_),(9,_),(10,_),(12,_)] [(4,_),(6,_),(7,_)] (fun _ A6 _ _=>?_) ?_
    ·refine p8 hn ?_
     refine l5 h14 (fun hb16 h14=>?_) (fun hb16 h14=>?_)
     ·refine p9 hn ?_
      refine A6 _ _ ?_
      exact jn ⟨_,sj h14⟩ []
     refine j6 hn ?_
     obtain ⟨o19,h18,h14⟩:=j4 h14
     refine jk (ι:={ s // o19=s }) hn (fun s=>[(13,.bool s.1)]) (fun s=>[]) [(1,_),(4,_),(6,_),(7,_),(9,_),(10,_),(12,_)] [(4,_),(6,_),(7,_)] (fun _ A7 _ _=>?_) ?_
     ·refine p8 hn ?_
      refine l5 h18 (fun hb20 h18=>?_) (fun hb20 h18=>?_)
      ·refine p9 hn ?_
       refine A7 _ _ ?_
       exact jn ⟨_,sj h18⟩ []
      refine kp [(1,_),(4,_),(6,_),(7,_),(9,_),(10,_),(12,_)] [(4,_),(6,_),(7,_)] ?_
      refine j6 hn ?_
      obtain ⟨o23,h22,h18⟩:=j4 h18
      refine jk (ι:={ s // o23=s }) hn (fun s=>[(13,.bool s.1)]) (fun s=>[]) [(1,_),(4,_),(6,_),(7,_),(9,_),(10,_),(12,_)] [(4,_),(6,_),(7,_)] (fun _ A8 _ _=>?_) ?_
      ·refine p8 hn ?_
       refine l5 h22 (fun hb24 h22=>?_) (fun hb24 h22=>?_)
       ·refine p9 hn ?_
        refine A8 _ _ ?_
        exact jn ⟨_,sj h22⟩ []
       refine j6 hn ?_
       obtain ⟨o27,h26,h22⟩:=j4 h22
       refine jk (ι:={ s // o27=s }) hn (fun s=>[(13,.bool s.1)]) (fun s=>[]) [(1,_),(4,_),(6,_),(7,_),(9,_),(10,_),(12,_)] [(4,_),(6,_),(7,_)] (fun _ A9 _ _=>?_) ?_
       ·refine p8 hn ?_
        refine l5 h26 (fun hb28 h26=>?_) (fun hb28 h26=>?_)
        ·refine p9 hn ?_
         refine A9 _ _ ?_
         exact jn ⟨_,sj h26⟩ []
        refine q8 hn ?_
        refine A9 _ _ ?_
        exact jn ⟨_,sj h26⟩ []
       rintro ⟨v25,hv_⟩
       replace hv_:=hv_.symm
       subst hv_
       refine A8 _ _ ?_
       exact jn ⟨_,sj h22⟩ []
      rintro ⟨v21,hv_⟩
      replace hv_:=hv_.symm
      subst hv_
      refine A7 _ _ ?_
      exact jn ⟨_,sj h18⟩ []
     rintro ⟨v17,hv_⟩
     replace hv_:=hv_.symm
     subst hv_
     refine A6 _ _ ?_
     exact jn ⟨_,sj h14⟩ []
    rintro ⟨v13,hv_⟩
    replace hv_:=hv_.symm
    subst hv_
    refine A5 _ _ ?_
    exact jn ⟨_,sj h10⟩ []
   rintro ⟨v9,hv_⟩
   replace hv_:=hv_.symm
   subst hv_
   refine A4 _ _ ?_
   exact jn ⟨_,sj h6⟩ []
  rintro ⟨v5,hv_⟩
  replace hv_:=hv_.symm
  subst hv_
  refine A3 _ _ ?_
  obtain ⟨o32,h31,h3⟩:=j4 h3
  refine jk (ι:={ s // o32=D9.next s }) hn (fun s=>[(9,.int s.1.1),(10,.int s.1.2)]) (fun s=>[]) [(7,_)] [(7,_)] (fun _ A10 _ R10=>?_) ?_
  ·refine p8 hn ?_
   refine l5 h31 (fun hb33 h31=>?_) (fun hb33 h31=>?_)
   ·refine p9 hn ?_
    refine A10 _ _ ?_
    exact jn ⟨_,sj h31⟩ []
   refine j6 hn ?_
   obtain ⟨o37,h36,h31⟩:=j4 h31
   refine jk (ι:={ s // o37=D9.next s }) hn (fun s=>[(9,.int s.1.1),(10,.int s.1.2)]) (fun s=>[]) [(7,_)] [(7,_)] (fun _ A11 _ R11=>?_) ?_
   ·refine p8 hn ?_
    refine l5 h36 (fun hb38 h36=>?_) (fun hb38 h36=>?_)
    ·refine q8 hn ?_
     refine Or.inr ?_
     refine A11 _ _ ?_
     exact jn ⟨_,sj h36⟩ []
    refine j5.seqQ fun _ A12 _ _=>?_
    refine j6 hn ?_
    obtain ⟨o41,h40,h36⟩:=j4 h36
    refine jk (ι:={ s // o41=s }) hn (fun s=>[(26,.bool s.1)]) (fun s=>[]) [(1,_),(4,_),(6,_),(7,_),(9,_),(12,_)] [(4,_),(6,_),(7,_)] (fun _ A13 _ _=>?_) ?_
    ·refine p8 hn ?_
     refine l5 h40 (fun hb42 h40=>?_) (fun hb42 h40=>?_)
     ·refine p9 hn ?_
      refine A13 _ _ ?_
      exact jn ⟨_,sj h40⟩ []
     refine q8 hn ?_
     refine A13 _ _ ?_
     exact jn ⟨_,sj h40⟩ []
    rintro ⟨v39,hv_⟩
    replace hv_:=hv_.symm
    subst hv_
    refine A12 _ _ ?_
    obtain ⟨o46,h45,h36⟩:=j4 h36
    refine jk (ι:={ s // o46=D9.next s }) hn (fun s=>[(9,.int s.1.1),(10,.int s.1.2)]) (fun s=>[]) [(7,_)] [(7,_)] (fun _ A14 _ R14=>?_) ?_
    ·refine p8 hn ?_
     refine l5 h45 (fun hb47 h45=>?_) (fun hb47 h45=>?_)
     ·refine q8 hn ?_
      refine Or.inr ?_
      refine A14 _ _ ?_
      exact jn ⟨_,sj h45⟩ []
     refine j5.seqQ fun _ A15 _ _=>?_
     refine j6 hn ?_
     obtain ⟨o50,h49,h45⟩:=j4 h45
     refine jk (ι:={ s // o50=s }) hn (fun s=>[(32,.bool s.1)]) (fun s=>[]) [(1,_),(4,_),(6,_),(7,_),(9,_),(12,_)] [(4,_),(6,_),(7,_)] (fun _ A16 _ _=>?_) ?_
     ·refine p8 hn ?_
      refine l5 h49 (fun hb51 h49=>?_) (fun hb51 h49=>?_)
      ·refine p9 hn ?_
       refine A16 _ _ ?_
       exact jn ⟨_,sj h49⟩ []
      refine q8 hn ?_
      refine A16 _ _ ?_
      exact jn ⟨_,sj h49⟩ []
     rintro ⟨v48,hv_⟩
     replace hv_:=hv_.symm
     subst hv_
     refine A15 _ _ ?_
     obtain ⟨o55,h54,h45⟩:=j4 h45
     refine jk (ι:={ s // o55=D9.next s }) hn (fun s=>[(9,.int s.1.1),(10,.int s.1.2)]) (fun s=>[]) [(7,_)] [(7,_)] (fun _ A17 _ R17=>?_) ?_
     ·refine p8 hn ?_
      refine l5 h54 (fun hb56 h54=>?_) (fun hb56 h54=>?_)
      ·refine q8 hn ?_
       obtain ⟨r57,hr58,h54⟩:=j4 h54
       show l8 Try.prog _ _ _ _
       refine cA (aG8 N a0 a1 r57 hr58) ?_
       refine Or.inr ?_
       refine A17 _ _ ?_
       exact jn ⟨_,sj h54⟩ []
      refine j6 hn ?_
      obtain ⟨o62,h61,h54⟩:=j4 h54
      refine jk (ι:={ s // o62=D9.next s }) hn (fun s=>[(9,.int s.1.1),(10,.int s.1.2)]) (fun s=>[]) [(7,_)] [(7,_)] (fun _ A18 _ R18=>?_) ?_
      ·refine p8 hn ?_
       refine l5 h61 (fun hb63 h61=>?_) (fun hb63 h61=>?_)
       ·refine q8 hn ?_
        refine A18 _ _ ?_
        exact jn ⟨_,sj h61⟩ []
       refine j6 hn ?_
       obtain ⟨o66,h65,h61⟩:=j4 h61
       refine jk (ι:={ s // o66=D9.next s }) hn (fun s=>[(10,.int s.1)]) (fun s=>[]) [(7,_),(9,_)] [(7,_)] (fun _ A19 _ R19=>?_) ?_
       ·refine p8 hn ?_
        refine l5 h65 (fun hb67 h65=>?_) (fun hb67 h65=>?_)
        ·refine j6 hn ?_
         refine D5 (fun _=>?_)
         refine Or.inr ?_
         refine j5.seqQ fun _ A20 _ _=>?_
         obtain ⟨o71,h70,h65⟩:=j4 h65
         refine jk (ι:={ s // o71=s }) hn (fun s=>[(54,.bool s.1)]) (fun s=>[]) [(7,_),(9,_),(10,_)] [(7,_)] (fun _ A21 _ _=>?_) ?_
         ·refine q8 hn ?_
          refine l5 h70 (fun hb72 h70=>?_) (fun hb72 h70=>?_)
          ·refine j3 hb72 ?_
           refine j3 hb72 ?_
           refine j3 hb72 ?_
           refine A21 _ _ ?_
           exact jn ⟨_,sj h70⟩ []
          refine d9 hb72 ?_
          refine d9 hb72 ?_
          refine d9 hb72 ?_
          refine A21 _ _ ?_
          exact jn ⟨_,sj h70⟩ []
         rintro ⟨v69,hv_⟩
         replace hv_:=hv_.symm
         subst hv_
         refine A20 _ _ ?_
         refine p8 hn ?_
         refine l5 h65 (fun hb73 h65=>?_) (fun hb73 h65=>?_)
         ·refine j6 hn ?_
          refine got hn ?_
          refine R19 _ _ ?_
          refine R18 _ _ ?_
          refine R17 _ _ ?_
          refine R14 _ _ ?_
          refine R11 _ _ ?_
          refine R10 _ _ ?_
          refine R2 _ _ ?_
          refine R1 _ _ ?_
          refine R0 _ _ ?_
          obtain rfl:=Option.some.inj h65
          obtain rfl:=Option.some.inj h61
          obtain rfl:=Option.some.inj h54
          obtain rfl:=Option.some.inj h45
          obtain rfl:=Option.some.inj h36
          obtain rfl:=Option.some.inj h31
          obtain rfl:=Option.some.inj h3
          obtain rfl:=Option.some.inj h
          exact ⟨[],_,fm⟩
         refine p9 hn ?_
         refine A19 _ _ ?_
         exact jn ⟨_,sj h65⟩ []
        refine j6 hn ?_
        obtain ⟨o76,h75,h65⟩:=j4 h65
        refine jk (ι:={ s // o76=D9.next s }) hn (fun s=>[(10,.int s.1)]) (fun s=>[]) [(7,_),(9,_)] [(7,_)] (fun _ A22 _ R22=>?_) ?_
        ·refine p8 hn ?_
         refine l5 h75 (fun hb77 h75=>?_) (fun hb77 h75=>?_)
         ·refine q8 hn ?_
          refine A22 _ _ ?_
          exact jn ⟨_,sj h75⟩ []
         refine j5.seqQ fun _ A23 _ _=>?_
         refine j6 hn ?_
         obtain ⟨o80,h79,h75⟩:=j4 h75
         refine jk (ι:={ s // o80=s }) hn (fun s=>[(57,.bool s.1)]) (fun s=>[]) [(6,_),(7,_),(9,_)] [(6,_),(7,_)] (fun _ A24 _ _=>?_) ?_
         ·refine p8 hn ?_
          refine l5 h79 (fun hb81 h79=>?_) (fun hb81 h79=>?_)
          ·refine p9 hn ?_
           refine A24 _ _ ?_
           exact jn ⟨_,sj h79⟩ []
          refine q8 hn ?_
          refine A24 _ _ ?_
          exact jn ⟨_,sj h79⟩ []
         rintro ⟨v78,hv_⟩
         replace hv_:=hv_.symm
         subst hv_
         refine A23 _ _ ?_
         refine p8 hn ?_
         refine l5 h75 (fun hb82 h75=>?_) (fun hb82 h75=>?_)
         ·refine q8 hn ?_
          refine D5 (fun _=>?_)
          refine Or.inr ?_
          refine A22 _ _ ?_
          exact jn ⟨_,sj h75⟩ []
         refine j6 hn ?_
         refine got hn ?_
         refine R22 _ _ ?_
         refine R19 _ _ ?_
         refine R18 _ _ ?_
         refine R17 _ _ ?_
         refine R14 _ _ ?_
         refine R11 _ _ ?_
         refine R10 _ _ ?_
         refine R2 _ _ ?_
         refine R1 _ _ ?_
         refine R0 _ _ ?_
         obtain rfl:=Option.some.inj h75
         obtain rfl:=Option.some.inj h65
         obtain rfl:=Option.some.inj h61
         obtain rfl:=Option.some.inj h54
         obtain rfl:=Option.some.inj h45
         obtain rfl:=Option.some.inj h36
         obtain rfl:=Option.some.inj h31
         obtain rfl:=Option.some.inj h3
         obtain rfl:=Option.some.inj h
         exact ⟨[],_,fm⟩
        rintro ⟨v74,rfl⟩
        refine A19 _ _ ?_
        exact jn ⟨_,sj h65⟩ []
       rintro ⟨v64,rfl⟩
       refine A18 _ _ ?_
       exact jn ⟨_,sj h61⟩ []
      rintro ⟨⟨v59,v60⟩,rfl⟩
      refine A17 _ _ ?_
      exact jn ⟨_,sj h54⟩ []
     rintro ⟨⟨v52,v53⟩,rfl⟩
     refine A14 _ _ ?_
     exact jn ⟨_,sj h45⟩ []
    rintro ⟨⟨v43,v44⟩,rfl⟩
    refine A11 _ _ ?_
    exact jn ⟨_,sj h36⟩ []
   rintro ⟨⟨v34,v35⟩,rfl⟩
   refine A10 _ _ ?_
   exact jn ⟨_,sj h31⟩ []
  rintro ⟨⟨v29,v30⟩,rfl⟩
  refine A2 _ _ ?_
  refine A1 _ _ ?_
  exact jn ⟨_,sj h3⟩ []
 rintro ⟨⟨v1,v2⟩,rfl⟩
 refine A0 _ _ ?_
 refine j5.seqQ fun _ A25 _ R25=>?_
 refine j5.seqQ fun _ A26 _ _=>?_
 obtain ⟨o86,h85,h⟩:=j4 h
 refine jk (ι:={ s // o86=s }) hn (fun s=>[(73,.bool s.1)]) (fun s=>[]) [(7,_)] [(7,_)] (fun _ A27 _ _=>?_) ?_
 ·refine q8 hn ?_
  refine l5 h85 (fun hb87 h85=>?_) (fun hb87 h85=>?_)
  ·refine j3 hb87 ?_
   refine j3 hb87 ?_
   refine j3 hb87 ?_
   refine j3 hb87 ?_
   refine A27 _ _ ?_
   exact jn ⟨_,sj h85⟩ []
  refine d9 hb87 ?_
  refine d9 hb87 ?_
  refine d9 hb87 ?_
  refine d9 hb87 ?_
  refine A27 _ _ ?_
  exact jn ⟨_,sj h85⟩ []
 rintro ⟨v84,hv_⟩
 replace hv_:=hv_.symm
 subst hv_
 refine A26 _ _ ?_
 refine p8 hn ?_
 refine l5 h (fun hb88 h=>?_) (fun hb88 h=>?_)
 ·refine j6 hn ?_
  refine got hn ?_
  refine R25 _ _ ?_
  obtain rfl:=Option.some.inj h
  exact ⟨[],_,fm⟩
 refine p9 hn ?_
 refine A25 _ _ ?_
 refine j5.seqQ fun _ A28 _ R28=>?_
 refine j5.seqQ fun _ A29 _ _=>?_
 obtain ⟨o91,h90,h⟩:=j4 h
 refine jk (ι:={ s // o91=s }) hn (fun s=>[(102,.bool s.1)]) (fun s=>[]) [] [] (fun _ A30 _ _=>?_) ?_
 ·refine q8 hn ?_
  refine l5 h90 (fun hb92 h90=>?_) (fun hb92 h90=>?_)
  ·refine j3 hb92 ?_
   refine j3 hb92 ?_
   obtain ⟨r93,hr94,h90⟩:=j4 h90
   show l8 Try.prog _ _ _ _
   refine cA (aP3 N a3.name r93 hr94) ?_
   refine j3 hb92 ?_
   refine j3 hb92 ?_
   refine l5 h90 (fun hb95 h90=>?_) (fun hb95 h90=>?_)
   ·refine j3 hb95 ?_
    refine j3 hb95 ?_
    refine j3 hb95 ?_
    refine j3 hb95 ?_
    refine j3 hb95 ?_
    refine A30 _ _ ?_
    exact jn ⟨_,sj h90⟩ []
   refine d9 hb95 ?_
   refine d9 hb95 ?_
   refine d9 hb95 ?_
   refine l5 h90 (fun hb96 h90=>?_) (fun hb96 h90=>?_)
   ·refine j3 hb96 ?_
    refine j3 hb96 ?_
    refine d9 hb95 ?_
    refine j3 hb96 ?_
    refine d9 hb95 ?_
    refine l5 h90 (fun hb97 h90=>?_) (fun hb97 h90=>?_)
    ·refine j3 hb97 ?_
     refine j3 hb97 ?_
     refine j3 hb97 ?_
     refine A30 _ _ ?_
     exact jn ⟨_,sj h90⟩ []
    refine d9 hb97 ?_
    refine d9 hb97 ?_
    refine d9 hb97 ?_
    refine l5 h90 (fun hb98 h90=>?_) (fun hb98 h90=>?_)
    ·refine j3 hb98 ?_
     refine j3 hb98 ?_
     refine j3 hb98 ?_
     refine A30 _ _ ?_
     exact jn ⟨_,sj h90⟩ []
    refine d9 hb98 ?_
    refine d9 hb98 ?_
    refine d9 hb98 ?_
    refine A30 _ _ ?_
    exact jn ⟨_,sj h90⟩ []
   refine d9 hb96 ?_
   refine d9 hb96 ?_
   refine d9 hb95 ?_
   refine d9 hb96 ?_
   refine d9 hb95 ?_
   refine l5 h90 (fun hb99 h90=>?_) (fun hb99 h90=>?_)
   ·refine j3 hb99 ?_
    refine j3 hb99 ?_
    refine j3 hb99 ?_
    refine A30 _ _ ?_
    exact jn ⟨_,sj h90⟩ []
   refine d9 hb99 ?_
   refine d9 hb99 ?_
   refine d9 hb99 ?_
   refine A30 _ _ ?_
   exact jn ⟨_,sj h90⟩ []
  refine d9 hb92 ?_
  refine d9 hb92 ?_
  refine d9 hb92 ?_
  refine d9 hb92 ?_
  refine l5 h90 (fun hb100 h90=>?_) (fun hb100 h90=>?_)
  ·refine j3 hb100 ?_
   refine j3 hb100 ?_
   refine j3 hb100 ?_
   refine l5 h90 (fun hb101 h90=>?_) (fun hb101 h90=>?_)
   ·refine j3 hb101 ?_
    refine j3 hb101 ?_
    refine j3 hb101 ?_
    refine A30 _ _ ?_
    exact jn ⟨_,sj h90⟩ []
   refine d9 hb101 ?_
   refine d9 hb101 ?_
   refine d9 hb101 ?_
   refine l5 h90 (fun hb102 h90=>?_) (fun hb102 h90=>?_)
   ·refine j3 hb102 ?_
    refine j3 hb102 ?_
    refine j3 hb102 ?_
    refine A30 _ _ ?_
    exact jn ⟨_,sj h90⟩ []
   refine d9 hb102 ?_
   refine d9 hb102 ?_
   refine d9 hb102 ?_
   refine A30 _ _ ?_
   exact jn ⟨_,sj h90⟩ []
  refine d9 hb100 ?_
  refine d9 hb100 ?_
  refine d9 hb100 ?_
  refine l5 h90 (fun hb103 h90=>?_) (fun hb103 h90=>?_)
  ·refine j3 hb103 ?_
   refine j3 hb103 ?_
   refine j3 hb103 ?_
   refine A30 _ _ ?_
   exact jn ⟨_,sj h90⟩ []
  refine d9 hb103 ?_
  refine d9 hb103 ?_
  refine d9 hb103 ?_
  refine A30 _ _ ?_
  exact jn ⟨_,sj h90⟩ []
 rintro ⟨v89,hv_⟩
 replace hv_:=hv_.symm
 subst hv_
 refine A29 _ _ ?_
 refine p8 hn ?_
 refine l5 h (fun hb104 h=>?_) (fun hb104 h=>?_)
 ·refine j6 hn ?_
  refine got hn ?_
  refine R28 _ _ ?_
  obtain rfl:=Option.some.inj h
  exact ⟨[],_,fm⟩
 refine p9 hn ?_
 refine A28 _ _ ?_
 refine j6 hn ?_
 refine got hn ?_
 obtain rfl:=Option.some.inj h
 exact ⟨[],_,fm⟩

/- qcref1.Next -/
set_option maxRecDepth 100000 in
set_option maxHeartbeats 8000000 in
theorem bY1 (N:Nat) (a0:Ins) (a1:Int) (r:(Int×Int×(List Int))) (h:aQ8 N a0 a1=some r):Spec Try.prog 96 [] [.agg (aO2 a0),.int a1] (.tup [.int r.1,.int r.2.1,.own 0]) [(0,.row 1 (List.map U2 r.2.2) 3)] [0]:=by
 refine Spec.of z8 Try.func96 rfl Try.ntmps96 (by kernel_rfl) rfl rfl rfl fun Γ hn=>?_
 unfold aQ8 at h
 refine j6 hn ?_
 refine j5.seqQ fun _ A0 _ R0=>?_
 refine j6 hn ?_
 refine j5.blkQ fun _ A1 _ _ R1=>?_
 refine j5.seqQ fun _ A2 _ _=>?_
 refine j6 hn ?_
 obtain ⟨o3,h2,h⟩:=j4 h
 refine jk (ι:={ s // o3=s }) hn (fun s=>[(9,.bool s.1)]) (fun s=>[]) [(1,_),(2,_),(8,_)] [(2,_)] (fun _ A3 _ _=>?_) ?_
 ·refine p8 hn ?_
  refine l5 h2 (fun hb4 h2=>?_) (fun hb4 h2=>?_)
  ·refine p9 hn ?_
   refine A3 _ _ ?_
   exact jn ⟨_,sj h2⟩ []
  refine j6 hn ?_
  obtain ⟨o7,h6,h2⟩:=j4 h2
  refine jk (ι:={ s // o7=s }) hn (fun s=>[(9,.bool s.1)]) (fun s=>[]) [(1,_),(2,_),(8,_)] [(2,_)] (fun _ A4 _ _=>?_) ?_
  ·refine p8 hn ?_
   refine l5 h6 (fun hb8 h6=>?_) (fun hb8 h6=>?_)
   ·refine p9 hn ?_
    refine A4 _ _ ?_
    exact jn ⟨_,sj h6⟩ []
   refine q8 hn ?_
   refine A4 _ _ ?_
   exact jn ⟨_,sj h6⟩ []
  rintro ⟨v5,hv_⟩
  replace hv_:=hv_.symm
  subst hv_
  refine A3 _ _ ?_
  exact jn ⟨_,sj h2⟩ []
 rintro ⟨v1,hv_⟩
 replace hv_:=hv_.symm
 subst hv_
 refine A2 _ _ ?_
 refine p8 hn ?_
 refine l5 h (fun hb9 h=>?_) (fun hb9 h=>?_)
 ·refine j6 hn ?_
  refine Or.inr ?_
  refine Exists.intro (List.map U2 [(wr (a1+(1:Int)))]) (And.intro (by repeat (first|exact trivial|exact rfl|(refine And.intro ?_ ?_))) ?_)
  refine got hn ?_
  refine R1 _ _ ?_
  refine R0 _ _ ?_
  obtain rfl:=Option.some.inj h
  exact ⟨[(0,15)],_,fm⟩
 refine j6 hn ?_
 refine p8 hn ?_
 refine l5 h (fun hb10 h=>?_) (fun hb10 h=>?_)
 ·refine j6 hn ?_
  refine Or.inr ?_
  refine Exists.intro (List.map U2 [(wr (a1+(1:Int)))]) (And.intro (by repeat (first|exact trivial|exact rfl|(refine And.intro ?_ ?_))) ?_)
  refine got hn ?_
  refine R1 _ _ ?_
  refine R0 _ _ ?_
  obtain rfl:=Option.some.inj h
  exact ⟨[(0,20)],_,fm⟩
 refine j6 hn ?_
 refine p8 hn ?_
 refine l5 h (fun hb11 h=>?_) (fun hb11 h=>?_)
 ·refine j5.seqQ fun _ A5 _ _=>?_
  refine P5 hn (by kernel_rfl) ?_
  refine Or.inr ?_
  obtain ⟨hg12,h⟩:=G5 h
  refine cV6 hg12 ?_
  refine Or.inr ?_
  refine Exists.intro (List.map U2 [(wr (a1+(1:Int)))]) (And.intro (by repeat (first|exact trivial|exact rfl|(refine And.intro ?_ ?_))) ?_)
  refine A5 _ _ ?_
  refine got hn ?_
  refine R1 _ _ ?_
  refine R0 _ _ ?_
  obtain rfl:=Option.some.inj h
  exact ⟨[(0,31)],_,fm⟩
 refine j6 hn ?_
 refine p8 hn ?_
 refine l5 h (fun hb13 h=>?_) (fun hb13 h=>?_)
 ·refine j5.seqQ fun _ A6 _ _=>?_
  refine P5 hn (by kernel_rfl) ?_
  refine Exists.intro (List.map U2 [a0.a]) (And.intro (by repeat (first|exact trivial|exact rfl|(refine And.intro ?_ ?_))) ?_)
  refine A6 _ _ ?_
  refine got hn ?_
  refine R1 _ _ ?_
  refine R0 _ _ ?_
  obtain rfl:=Option.some.inj h
  exact ⟨[(0,36)],_,fm⟩
 refine j6 hn ?_
 refine p8 hn ?_
 refine l5 h (fun hb14 h=>?_) (fun hb14 h=>?_)
 ·refine j5.seqQ fun _ A7 _ _=>?_
  refine P5 hn (by kernel_rfl) ?_
  refine Or.inr ?_
  refine Exists.intro (List.map U2 [(wr (a1+(1:Int))),a0.a]) (And.intro (by repeat (first|exact trivial|exact rfl|(refine And.intro ?_ ?_))) ?_)
  refine A7 _ _ ?_
  refine got hn ?_
  refine R1 _ _ ?_
  refine R0 _ _ ?_
  obtain rfl:=Option.some.inj h
  exact ⟨[(0,43)],_,fm⟩
 refine j6 hn ?_
 refine p8 hn ?_
 refine l5 h (fun hb15 h=>?_) (fun hb15 h=>?_)
 ·refine j6 hn ?_
  refine j5.nilrow 6 206 1 3 rfl rfl rfl ?_
  refine got hn ?_
  refine R1 _ _ ?_
  refine R0 _ _ ?_
  obtain rfl:=Option.some.inj h
  exact ⟨[(0,206)],_,fm⟩
 refine p9 hn ?_
 refine A1 _ _ ?_
 refine A0 _ _ ?_
 refine j6 hn ?_
 refine Or.inr ?_
 refine Exists.intro (List.map U2 [(wr (a1+(1:Int)))]) (And.intro (by repeat (first|exact trivial|exact rfl|(refine And.intro ?_ ?_))) ?_)
 refine got hn ?_
 obtain rfl:=Option.some.inj h
 exact ⟨[(0,48)],_,fm⟩

/- qcref1.Heights -/
set_option maxRecDepth 100000 in
set_option maxHeartbeats 8000000 in
theorem bR1 (N:Nat) (a0:Me) (r:((List Int)×M0)) (h:aD8 N a0=some r):Spec Try.prog 77 [] [.agg (eMe a0)] (.tup [.own 0,.agg (cI1 r.2)]) [(0,.row 1 (List.map U2 r.1) 3)] [0]:=by
 refine Spec.of z8 Try.func77 rfl Try.ntmps77 (by kernel_rfl) rfl rfl rfl fun Γ hn=>?_
 unfold aD8 at h
 refine j6 hn ?_
 refine j6 hn ?_
 refine D5 (fun _=>?_)
 obtain ⟨hg2,h⟩:=G5 h
 refine mkM (enc:=U2) (x:=(0:Int)) hg2 (by repeat (first|exact trivial|exact rfl|(refine And.intro ?_ ?_))) ?_
 refine j5.seqQ fun _ A0 _ _=>?_
 refine j6 hn ?_
 refine D5 (fun _=>?_)
 refine j5.rng 21 rfl (fun hrn=>?_)
 obtain ⟨o8,h9,h⟩:=j4 h
 refine jk (ι:={ s // o8=s }) hn (fun s=>[]) (fun s=>[(19,.row 1 (List.map U2 s.1) 3)]) [(1,_),(3,_),(4,_)] [(1,_),(3,_)] (fun _ A1 _ _=>?_) ?_
 ·refine j5.blkQ fun _ _ E2 _ _=>?_
  refine lq (ι:={ q:(Nat×Nat×(List Int)) // q.1=(((List.replicate (a0.code.length:Int).toNat (0:Int)).length:Int) - (q.2.1:Int)).toNat∧P9 N q.1 q.2.1 q.2.2=some o8 }) hn (fun q=>[(22,.int (q.1.2.1:Int))]) (fun q=>[(19,.row 1 (List.map U2 q.1.2.2) 3)]) (fun q=>q.1.1) [(1,_),(3,_),(4,_),(21,_)] [(1,_),(3,_)] ⟨((((List.replicate (a0.code.length:Int).toNat (0:Int)).length:Int) - ((0:Nat):Int)).toNat,0,(List.replicate (a0.code.length:Int).toNat (0:Int))),rfl,h9⟩ [] ?_
  rintro ⟨⟨n_,k4,v5⟩,hd11,h9⟩ _ A3 X3 _
  replace hd11:n_=(((List.replicate (a0.code.length:Int).toNat (0:Int)).length:Int) - (k4:Int)).toNat:=hd11
  rcases n_ with _|n12
  ·have hlt15:=cJ8 hd11
   replace h9:=(P9.eq_1 _ _ _).symm.trans h9
   refine j6 hn ?_
   refine j5.seqQ fun _ _ X4 _=>?_
   refine p8 hn ?_
   refine d9 hlt15 ?_
   refine F6 hn ?_
   refine X4 _ _ _ ?_
   refine X3 _ _ _ ?_
   refine E2 _ _ ?_
   refine A1 _ _ ?_
   exact jn ⟨_,sj h9⟩ []
  ·obtain ⟨hd2,hlt15⟩:=cD8 hd11
   replace h9:=(P9.eq_2 _ _ _ _).symm.trans h9
   refine j6 hn ?_
   refine j5.seqQ fun _ A5 _ _=>?_
   refine p8 hn ?_
   refine j3 hlt15 ?_
   refine p9 hn ?_
   refine A5 _ _ ?_
   refine j5.seqQ fun _ A6 _ _=>?_
   refine j5.blkQ fun _ A7 _ _ _=>?_
   refine j6 hn ?_
   refine q8 hn ?_
   obtain ⟨x16,hx17,h9⟩:=j4 h9
   refine aE6 hx17 ?_
   refine Y8 (C8 hx17).2 ?_
   refine Exists.intro (List.map U2 (v5.set ((k4:Int).toNat) (-1:Int))) (And.intro (aV8 (C8 hx17).2 (by repeat (first|exact trivial|exact rfl|(refine And.intro ?_ ?_)))) ?_)
   refine A7 _ _ ?_
   refine A6 _ _ ?_
   refine q8 hn ?_
   refine Or.inl (And.intro (cU3 hlt15 hrn) ?_)
   refine A3 _ _ ?_
   exact jn ⟨(n12,k4+1,(v5.set ((k4:Int).toNat) (-1:Int))),hd2,h9⟩ [] (by show n12 < n12+1; omega)
 rintro ⟨v7,hv_⟩
 replace hv_:=hv_.symm
 subst hv_
 refine A0 _ _ ?_
 refine j6 hn ?_
 refine Exists.intro (List.map U2 [(0:Int)]) (And.intro (by repeat (first|exact trivial|exact rfl|(refine And.intro ?_ ?_))) ?_)
 refine Exists.intro (List.map U2 [(0:Int)]) (And.intro (by repeat (first|exact trivial|exact rfl|(refine And.intro ?_ ?_))) ?_)
 refine j5.seqQ fun _ A8 _ R8=>?_
 refine j6 hn ?_
 obtain ⟨o28,h29,h⟩:=j4 h
 refine jk (ι:={ s // o28=D9.next s }) hn (fun s=>[]) (fun s=>[(19,.row 1 (List.map U2 s.1) 3)]) [(3,_),(4,_)] [(3,_)] (fun _ A9 _ R9=>?_) ?_
 ·refine j5.blkQ fun _ _ E10 _ R10=>?_
  refine lq (ι:={ q:(Nat×(List Int)×(List Int)×(List Int)×Int) // P7 N a0 q.1 q.2.1 q.2.2.1 q.2.2.2.1 q.2.2.2.2=some o28 }) hn (fun q=>[(8,.int q.1.2.2.2.2)]) (fun q=>[(19,.row 1 (List.map U2 q.1.2.1) 3),(29,.row 1 (List.map U2 q.1.2.2.1) 3),(30,.row 1 (List.map U2 q.1.2.2.2.1) 3)]) (fun q=>q.1.1) [(1,_),(3,_),(4,_),(6,_),(7,_)] [(1,_),(3,_)] ⟨(N,v7,[(0:Int)],[(0:Int)],(0:Int)),h29⟩ [] ?_
  rintro ⟨⟨n_,v19,v20,v21,v22⟩,h29⟩ _ A11 X11 R11
  rcases n_ with _|n32
  ·rw [P7.eq_1] at h29
   cases h29
  ·replace h29:=(P7.eq_2 _ _ _ _ _ _ _).symm.trans h29
   refine j5.seqQ fun _ A12 X12 _=>?_
   refine j6 hn ?_
   refine D5 (fun _=>?_)
   refine p8 hn ?_
   refine l5 h29 (fun hb34 h29=>?_) (fun hb34 h29=>?_)
   ·refine p9 hn ?_
    refine A12 _ _ ?_
    refine j5.seqQ fun _ A13 _ R13=>?_
    obtain ⟨o39,h38,h29⟩:=j4 h29
    refine jk (ι:={ s // o39=D9.next s }) hn (fun s=>[]) (fun s=>[(19,.row 1 (List.map U2 s.1.1) 3),(29,.row 1 (List.map U2 s.1.2.1) 3),(30,.row 1 (List.map U2 s.1.2.2) 3)]) [(1,_),(3,_),(4,_),(6,_),(7,_),(8,_)] [(1,_),(3,_)] (fun _ A14 _ R14=>?_) ?_
    ·refine j5.blkQ fun _ A15 E15 _ R15=>?_
     refine j5.seqQ fun _ A16 _ _=>?_
     refine P5 hn (by kernel_rfl) ?_
     obtain ⟨x40,hx41,h38⟩:=j4 h38
     refine aE6 hx41 ?_
     refine Y8 (C8 hx41).2 ?_
     obtain ⟨x42,hx43,h38⟩:=j4 h38
     refine aE6 hx43 ?_
     refine Y8 (C8 hx43).2 ?_
     refine A16 _ _ ?_
     refine j5.seqQ fun _ A17 _ R17=>?_
     refine j5.seqQ fun _ A18 _ _=>?_
     obtain ⟨o46,h45,h38⟩:=j4 h38
     refine jk (ι:={ s // o46=s }) hn (fun s=>[(53,.bool s.1)]) (fun s=>[]) [(1,_),(3,_),(4,_),(6,_),(7,_),(8,_),(9,_),(10,_)] [(1,_),(3,_),(19,_),(29,_),(30,_)] (fun _ A19 _ _=>?_) ?_
     ·refine kp [(1,_),(3,_),(4,_),(6,_),(7,_),(8,_),(9,_),(10,_)] [(1,_),(3,_),(19,_),(29,_),(30,_)] ?_
      refine q8 hn ?_
      refine D5 (fun _=>?_)
      refine l5 h45 (fun hb48 h45=>?_) (fun hb48 h45=>?_)
      ·refine j3 hb48 ?_
       refine j3 hb48 ?_
       refine A19 _ _ ?_
       exact jn ⟨_,sj h45⟩ []
      refine d9 hb48 ?_
      refine d9 hb48 ?_
      refine A19 _ _ ?_
      exact jn ⟨_,sj h45⟩ []
     rintro ⟨v44,hv_⟩
     replace hv_:=hv_.symm
     subst hv_
     refine A18 _ _ ?_
     refine p8 hn ?_
     refine l5 h38 (fun hb49 h38=>?_) (fun hb49 h38=>?_)
     ·refine j5.seqQ fun _ A20 _ _=>?_
      refine P5 hn (by kernel_rfl) ?_
      refine D5 (fun _=>?_)
      refine A20 _ _ ?_
      refine j5.nilrow 2 202 1 3 rfl rfl rfl ?_
      refine got hn ?_
      refine R17 _ _ ?_
      refine R15 _ _ ?_
      refine R14 _ _ ?_
      refine R13 _ _ ?_
      refine R11 _ _ ?_
      refine R10 _ _ ?_
      refine R9 _ _ ?_
      refine R8 _ _ ?_
      obtain rfl:=Option.some.inj h38
      obtain rfl:=Option.some.inj h29
      obtain rfl:=Option.some.inj h
      exact ⟨[(0,202)],_,fm⟩
     refine p9 hn ?_
     refine A17 _ _ ?_
     refine j5.seqQ fun _ A21 X21 R21=>?_
     refine j6 hn ?_
     obtain ⟨x51,hx52,h38⟩:=j4 h38
     refine aE6 hx52 ?_
     refine Y8 (C8 hx52).2 ?_
     refine p8 hn ?_
     refine l5 h38 (fun hb53 h38=>?_) (fun hb53 h38=>?_)
     ·refine j5.seqQ fun _ A22 _ R22=>?_
      refine j6 hn ?_
      obtain ⟨x54,hx55,h38⟩:=j4 h38
      refine aE6 hx55 ?_
      refine Y8 (C8 hx55).2 ?_
      refine p8 hn ?_
      refine l5 h38 (fun hb56 h38=>?_) (fun hb56 h38=>?_)
      ·refine kp [(3,_),(9,_)] [(3,_)] ?_
       refine j6 hn ?_
       refine j5.nilrow 2 202 1 3 rfl rfl rfl ?_
       refine got hn ?_
       refine R22 _ _ ?_
       refine R21 _ _ ?_
       refine R15 _ _ ?_
       refine R14 _ _ ?_
       refine R13 _ _ ?_
       refine R11 _ _ ?_
       refine R10 _ _ ?_
       refine R9 _ _ ?_
       refine R8 _ _ ?_
       obtain rfl:=Option.some.inj h38
       obtain rfl:=Option.some.inj h29
       obtain rfl:=Option.some.inj h
       exact ⟨[(0,202)],_,fm⟩
      refine p9 hn ?_
      refine A22 _ _ ?_
      refine F6 hn ?_
      refine X21 _ _ _ ?_
      refine E15 _ _ ?_
      refine A14 _ _ ?_
      exact jn ⟨_,sj h38⟩ []
     refine p9 hn ?_
     refine A21 _ _ ?_
     refine j6 hn ?_
     obtain ⟨x57,hx58,h38⟩:=j4 h38
     refine aE6 hx58 ?_
     refine Y8 (C8 hx58).2 ?_
     refine Exists.intro (List.map U2 (v19.set x40.toNat x42)) (And.intro (aV8 (C8 hx58).2 (by repeat (first|exact trivial|exact rfl|(refine And.intro ?_ ?_)))) ?_)
     refine kp [(1,_),(3,_),(4,_),(6,_),(7,_),(8,_),(9,_),(10,_)] [(1,_),(3,_),(19,_),(29,_),(30,_)] ?_
     refine j6 hn ?_
     obtain ⟨x59,hx60,h38⟩:=j4 h38
     refine V5 hx60 ?_
     obtain ⟨r61,hr62,h38⟩:=j4 h38
     show l8 Try.prog _ _ _ _
     refine cA ((bY1 N x59 x40 r61 hr62).sw 0 82) ?_
     refine j5.seqQ fun _ A23 _ R23=>?_
     refine j5.seqQ fun _ A24 _ _=>?_
     obtain ⟨o65,h64,h38⟩:=j4 h38
     refine jk (ι:={ s // o65=s }) hn (fun s=>[(101,.bool s.1)]) (fun s=>[]) [(1,_),(3,_),(4,_),(6,_),(7,_),(8,_),(9,_),(10,_),(12,_),(13,_)] [(1,_),(3,_),(19,_),(29,_),(30,_),(82,_)] (fun _ A25 _ _=>?_) ?_
     ·refine kp [(1,_),(3,_),(4,_),(6,_),(7,_),(8,_),(9,_),(10,_),(11,_),(12,_),(13,_)] [(1,_),(3,_),(19,_),(29,_),(30,_),(82,_)] ?_
      refine q8 hn ?_
      refine l5 h64 (fun hb66 h64=>?_) (fun hb66 h64=>?_)
      ·refine j3 hb66 ?_
       refine j3 hb66 ?_
       refine j3 hb66 ?_
       refine j3 hb66 ?_
       refine j3 hb66 ?_
       refine j3 hb66 ?_
       refine j3 hb66 ?_
       refine j3 hb66 ?_
       refine j3 hb66 ?_
       refine A25 _ _ ?_
       exact jn ⟨_,sj h64⟩ []
      refine d9 hb66 ?_
      refine d9 hb66 ?_
      refine d9 hb66 ?_
      obtain ⟨x67,hx68,h64⟩:=j4 h64
      refine V5 hx68 ?_
      refine d9 hb66 ?_
      refine d9 hb66 ?_
      refine d9 hb66 ?_
      refine d9 hb66 ?_
      refine l5 h64 (fun hb69 h64=>?_) (fun hb69 h64=>?_)
      ·refine j3 hb69 ?_
       refine d9 hb66 ?_
       refine j3 hb69 ?_
       refine d9 hb66 ?_
       refine A25 _ _ ?_
       exact jn ⟨_,sj h64⟩ []
      refine d9 hb69 ?_
      refine d9 hb66 ?_
      refine d9 hb69 ?_
      refine d9 hb66 ?_
      refine A25 _ _ ?_
      exact jn ⟨_,sj h64⟩ []
     rintro ⟨v63,hv_⟩
     replace hv_:=hv_.symm
     subst hv_
     refine A24 _ _ ?_
     refine p8 hn ?_
     refine l5 h38 (fun hb70 h38=>?_) (fun hb70 h38=>?_)
     ·refine j6 hn ?_
      refine j5.nilrow 2 202 1 3 rfl rfl rfl ?_
      refine got hn ?_
      refine R23 _ _ ?_
      refine R15 _ _ ?_
      refine R14 _ _ ?_
      refine R13 _ _ ?_
      refine R11 _ _ ?_
      refine R10 _ _ ?_
      refine R9 _ _ ?_
      refine R8 _ _ ?_
      obtain rfl:=Option.some.inj h38
      obtain rfl:=Option.some.inj h29
      obtain rfl:=Option.some.inj h
      exact ⟨[(0,202)],_,fm⟩
     refine p9 hn ?_
     refine A23 _ _ ?_
     refine j5.seqQ fun _ A26 _ R26=>?_
     refine j6 hn ?_
     refine Or.inr ?_
     refine p8 hn ?_
     refine l5 h38 (fun hb71 h38=>?_) (fun hb71 h38=>?_)
     ·refine j6 hn ?_
      refine j5.nilrow 2 202 1 3 rfl rfl rfl ?_
      refine got hn ?_
      refine R26 _ _ ?_
      refine R15 _ _ ?_
      refine R14 _ _ ?_
      refine R13 _ _ ?_
      refine R11 _ _ ?_
      refine R10 _ _ ?_
      refine R9 _ _ ?_
      refine R8 _ _ ?_
      obtain rfl:=Option.some.inj h38
      obtain rfl:=Option.some.inj h29
      obtain rfl:=Option.some.inj h
      exact ⟨[(0,202)],_,fm⟩
     refine p9 hn ?_
     refine A26 _ _ ?_
     refine j6 hn ?_
     refine D5 (fun hl72=>?_)
     obtain ⟨o80,h81,h38⟩:=j4 h38
     refine jk (ι:={ s // o80=s }) hn (fun s=>[]) (fun s=>[(29,.row 1 (List.map U2 s.1.1) 3),(30,.row 1 (List.map U2 s.1.2) 3)]) [(1,_),(3,_),(4,_),(6,_),(7,_),(8,_)] [(1,_),(3,_),(19,_)] (fun _ A27 _ _=>?_) ?_
     ·refine j5.blkQ fun _ _ E28 _ _=>?_
      refine lq (ι:={ q:((List Int)×Nat×(List Int)×(List Int)) // q.1=r61.2.2.drop q.2.1∧P8 N x42 r61 q.1 q.2.1 q.2.2.1 q.2.2.2=some o80 }) hn (fun q=>[(112,.int (q.1.2.1:Int))]) (fun q=>[(29,.row 1 (List.map U2 q.1.2.2.1) 3),(30,.row 1 (List.map U2 q.1.2.2.2) 3)]) (fun q=>q.1.1.length) [(1,_),(3,_),(4,_),(6,_),(7,_),(8,_),(10,_),(12,_),(110,_),(111,_)] [(1,_),(3,_),(19,_),(82,_)] ⟨(r61.2.2,0,v20,v21),rfl,h81⟩ [] ?_
      rintro ⟨⟨rest_,k73,v74,v75⟩,hd83,h81⟩ _ A29 X29 _
      replace hd83:rest_=r61.2.2.drop k73:=hd83
      rcases rest_ with _|⟨x85,rest82⟩
      ·have hlt87:=N9 hd83
       replace h81:=(P8.eq_1 _ _ _ _ _ _).symm.trans h81
       refine j6 hn ?_
       refine j5.seqQ fun _ _ X30 _=>?_
       refine p8 hn ?_
       refine d9 hlt87 ?_
       refine F6 hn ?_
       refine X30 _ _ _ ?_
       refine X29 _ _ _ ?_
       refine E28 _ _ ?_
       refine A27 _ _ ?_
       exact jn ⟨_,sj h81⟩ []
      ·obtain ⟨hx86,hd2,hlt87⟩:=H9 hd83
       replace h81:=(P8.eq_2 _ _ _ _ _ _ _ _).symm.trans h81
       refine j6 hn ?_
       refine j5.seqQ fun _ A31 _ _=>?_
       refine p8 hn ?_
       refine j3 hlt87 ?_
       refine p9 hn ?_
       refine A31 _ _ ?_
       refine j5.seqQ fun _ A32 _ _=>?_
       refine j5.blkQ fun _ A33 _ _ _=>?_
       refine j6 hn ?_
       obtain ⟨x88,hx89,h81⟩:=j4 h81
       refine aE6 hx89 ?_
       refine Y8 (C8 hx89).2 ?_
       refine q8 hn ?_
       refine Exists.intro (List.map U2 [x88]) (And.intro (by repeat (first|exact trivial|exact rfl|(refine And.intro ?_ ?_))) ?_)
       obtain ⟨hg90,h81⟩:=G5 h81
       refine aJ7 (l2:=[x88]) hg90 (D8 _) ?_
       refine Or.inr ?_
       refine Exists.intro (List.map U2 [(wr (x42+r61.2.1))]) (And.intro (by repeat (first|exact trivial|exact rfl|(refine And.intro ?_ ?_))) ?_)
       obtain ⟨hg91,h81⟩:=G5 h81
       refine aJ7 (l2:=[(wr (x42+r61.2.1))]) hg91 (D8 _) ?_
       refine A33 _ _ ?_
       refine A32 _ _ ?_
       refine kp [(1,_),(3,_),(4,_),(6,_),(7,_),(8,_),(10,_),(12,_),(110,_),(111,_),(112,_)] [(1,_),(3,_),(19,_),(82,_),(119,_),(125,_)] ?_
       refine q8 hn ?_
       refine Or.inl (And.intro (aE3 hx86 hl72) ?_)
       refine A29 _ _ ?_
       exact jn ⟨(rest82,k73+1,(v74++[x88]),(v75++[(wr (x42+r61.2.1))])),hd2,h81⟩ [(29,119),(30,125)] (by show rest82.length < rest82.length+1; omega)
     rintro ⟨⟨v78,v79⟩,rfl⟩
     refine A15 _ _ ?_
     refine A14 _ _ ?_
     exact jn ⟨_,sj h38⟩ []
    rintro ⟨⟨v35,v36,v37⟩,rfl⟩
    refine A13 _ _ ?_
    refine q8 hn ?_
    refine Or.inr ?_
    refine A11 _ _ ?_
    exact jn ⟨(n32,v35,v36,v37,(wr (v22+(1:Int)))),h29⟩ [] (by show n32 < n32+1; omega)
   refine F6 hn ?_
   refine X12 _ _ _ ?_
   refine X11 _ _ _ ?_
   refine E10 _ _ ?_
   refine A9 _ _ ?_
   exact jn ⟨_,sj h29⟩ []
 rintro ⟨v27,rfl⟩
 refine A8 _ _ ?_
 refine j6 hn ?_
 refine got hn ?_
 obtain rfl:=Option.some.inj h
 exact ⟨[(0,19)],_,fm⟩

/- qcref1.Check -/
set_option maxRecDepth 100000 in
set_option maxHeartbeats 8000000 in
theorem bX3 (N:Nat) (a0:Wd) (a1:Int) (a2:Me) (r:M0) (h:T9 N a0 a1 a2=some r):Spec Try.prog 44 [] [.agg (eWd a0),.int a1,.agg (eMe a2)] (.agg (cI1 r)) [] []:=by
 refine Spec.of z8 Try.func44 rfl Try.ntmps44 (by kernel_rfl) rfl rfl rfl fun Γ hn=>?_
 unfold T9 at h
 refine j6 hn ?_
 refine j5.seqQ fun _ A0 _ R0=>?_
 refine j5.seqQ fun _ A1 _ _=>?_
 obtain ⟨o3,h2,h⟩:=j4 h
 refine jk (ι:={ s // o3=s }) hn (fun s=>[(20,.bool s.1)]) (fun s=>[]) [(1,_),(3,_),(5,_),(6,_)] [(3,_),(5,_),(6,_)] (fun _ A2 _ _=>?_) ?_
 ·refine q8 hn ?_
  refine l5 h2 (fun hb4 h2=>?_) (fun hb4 h2=>?_)
  ·refine j3 hb4 ?_
   refine j3 hb4 ?_
   refine j3 hb4 ?_
   refine j3 hb4 ?_
   refine j3 hb4 ?_
   refine A2 _ _ ?_
   exact jn ⟨_,sj h2⟩ []
  refine d9 hb4 ?_
  refine d9 hb4 ?_
  refine d9 hb4 ?_
  refine D5 (fun _=>?_)
  refine d9 hb4 ?_
  refine d9 hb4 ?_
  refine A2 _ _ ?_
  exact jn ⟨_,sj h2⟩ []
 rintro ⟨v1,hv_⟩
 replace hv_:=hv_.symm
 subst hv_
 refine A1 _ _ ?_
 refine p8 hn ?_
 refine l5 h (fun hb6 h=>?_) (fun hb6 h=>?_)
 ·refine j6 hn ?_
  refine got hn ?_
  refine R0 _ _ ?_
  obtain rfl:=Option.some.inj h
  exact ⟨[],_,fm⟩
 refine p9 hn ?_
 refine A0 _ _ ?_
 refine j5.seqQ fun _ A3 _ R3=>?_
 refine j6 hn ?_
 obtain ⟨r7,hr8,h⟩:=j4 h
 show l8 Try.prog _ _ _ _
 refine cA (aP3 N a2.name r7 hr8) ?_
 refine p8 hn ?_
 refine l5 h (fun hb9 h=>?_) (fun hb9 h=>?_)
 ·refine j6 hn ?_
  refine got hn ?_
  refine R3 _ _ ?_
  obtain rfl:=Option.some.inj h
  exact ⟨[],_,fm⟩
 refine p9 hn ?_
 refine A3 _ _ ?_
 refine j5.seqQ fun _ A4 _ R4=>?_
 refine j5.seqQ fun _ A5 _ _=>?_
 obtain ⟨o12,h11,h⟩:=j4 h
 refine jk (ι:={ s // o12=s }) hn (fun s=>[(44,.bool s.1)]) (fun s=>[]) [(1,_),(3,_),(5,_),(6,_)] [(3,_),(5,_),(6,_)] (fun _ A6 _ _=>?_) ?_
 ·refine q8 hn ?_
  refine l5 h11 (fun hb13 h11=>?_) (fun hb13 h11=>?_)
  ·refine j3 hb13 ?_
   refine j3 hb13 ?_
   refine j3 hb13 ?_
   refine A6 _ _ ?_
   exact jn ⟨_,sj h11⟩ []
  refine d9 hb13 ?_
  refine d9 hb13 ?_
  refine d9 hb13 ?_
  refine l5 h11 (fun hb14 h11=>?_) (fun hb14 h11=>?_)
  ·refine j3 hb14 ?_
   refine j3 hb14 ?_
   refine j3 hb14 ?_
   refine A6 _ _ ?_
   exact jn ⟨_,sj h11⟩ []
  refine d9 hb14 ?_
  refine d9 hb14 ?_
  refine d9 hb14 ?_
  refine l5 h11 (fun hb15 h11=>?_) (fun hb15 h11=>?_)
  ·refine j3 hb15 ?_
   refine j3 hb15 ?_
   refine j3 hb15 ?_
   refine A6 _ _ ?_
   exact jn ⟨_,sj h11⟩ []
  refine d9 hb15 ?_
  refine d9 hb15 ?_
  refine d9 hb15 ?_
  refine A6 _ _ ?_
  exact jn ⟨_,sj h11⟩ []
 rintro ⟨v10,hv_⟩
 replace hv_:=hv_.symm
 subst hv_
 refine A5 _ _ ?_
 refine p8 hn ?_
 refine l5 h (fun hb16 h=>?_) (fun hb16 h=>?_)
 ·refine j6 hn ?_
  refine got hn ?_
  refine R4 _ _ ?_
  obtain rfl:=Option.some.inj h
  exact ⟨[],_,fm⟩
 refine p9 hn ?_
 refine A4 _ _ ?_
 refine j5.seqQ fun _ A7 _ R7=>?_
 refine j6 hn ?_
 refine p8 hn ?_
 refine l5 h (fun hb17 h=>?_) (fun hb17 h=>?_)
 ·refine j6 hn ?_
  refine got hn ?_
  refine R7 _ _ ?_
  obtain rfl:=Option.some.inj h
  exact ⟨[],_,fm⟩
 refine p9 hn ?_
 refine A7 _ _ ?_
 refine j5.seqQ fun _ A8 _ R8=>?_
 refine j5.seqQ fun _ A9 _ _=>?_
 obtain ⟨o20,h19,h⟩:=j4 h
 refine jk (ι:={ s // o20=s }) hn (fun s=>[(59,.bool s.1)]) (fun s=>[]) [(1,_),(3,_),(5,_),(6,_)] [(3,_),(5,_),(6,_)] (fun _ A10 _ _=>?_) ?_
 ·refine q8 hn ?_
  refine D5 (fun _=>?_)
  refine l5 h19 (fun hb22 h19=>?_) (fun hb22 h19=>?_)
  ·refine j3 hb22 ?_
   refine j3 hb22 ?_
   refine j3 hb22 ?_
   refine j3 hb22 ?_
   refine A10 _ _ ?_
   exact jn ⟨_,sj h19⟩ []
  refine d9 hb22 ?_
  refine d9 hb22 ?_
  refine D5 (fun _=>?_)
  refine d9 hb22 ?_
  refine d9 hb22 ?_
  refine A10 _ _ ?_
  exact jn ⟨_,sj h19⟩ []
 rintro ⟨v18,hv_⟩
 replace hv_:=hv_.symm
 subst hv_
 refine A9 _ _ ?_
 refine p8 hn ?_
 refine l5 h (fun hb24 h=>?_) (fun hb24 h=>?_)
 ·refine j6 hn ?_
  refine got hn ?_
  refine R8 _ _ ?_
  obtain rfl:=Option.some.inj h
  exact ⟨[],_,fm⟩
 refine p9 hn ?_
 refine A8 _ _ ?_
 refine j5.seqQ fun _ A11 _ R11=>?_
 refine j6 hn ?_
 refine D5 (fun hl25=>?_)
 obtain ⟨o27,h28,h⟩:=j4 h
 refine jk (ι:={ s // o27=D9.next s }) hn (fun s=>[]) (fun s=>[]) [(5,_),(6,_)] [(5,_),(6,_)] (fun _ A12 _ R12=>?_) ?_
 ·refine j5.blkQ fun _ _ E13 _ R13=>?_
  refine lq (ι:={ q:((List Ins)×Nat) // q.1=a2.code.drop q.2∧K5 N a0 a1 a2 q.1 q.2=some o27 }) hn (fun q=>[(64,.int (q.1.2:Int))]) (fun q=>[]) (fun q=>q.1.1.length) [(1,_),(3,_),(5,_),(6,_),(62,_),(63,_)] [(3,_),(5,_),(6,_)] ⟨(a2.code,0),rfl,h28⟩ [] ?_
  rintro ⟨⟨rest_,k26⟩,hd30,h28⟩ _ A14 X14 R14
  replace hd30:rest_=a2.code.drop k26:=hd30
  rcases rest_ with _|⟨x32,rest29⟩
  ·have hlt34:=N9 hd30
   replace h28:=(K5.eq_1 _ _ _ _ _).symm.trans h28
   refine j6 hn ?_
   refine j5.seqQ fun _ _ X15 _=>?_
   refine p8 hn ?_
   refine d9 hlt34 ?_
   refine F6 hn ?_
   refine X15 _ _ _ ?_
   refine X14 _ _ _ ?_
   refine E13 _ _ ?_
   refine A12 _ _ ?_
   exact jn ⟨_,sj h28⟩ []
  ·obtain ⟨hx33,hd2,hlt34⟩:=H9 hd30
   replace h28:=(K5.eq_2 _ _ _ _ _ _ _).symm.trans h28
   refine j6 hn ?_
   refine j5.seqQ fun _ A16 _ _=>?_
   refine p8 hn ?_
   refine j3 hlt34 ?_
   refine p9 hn ?_
   refine A16 _ _ ?_
   refine j5.seqQ fun _ A17 _ R17=>?_
   refine j5.blkQ fun _ A18 _ _ R18=>?_
   refine j6 hn ?_
   refine aJ1 hx33 ?_
   refine j6 hn ?_
   obtain ⟨r35,hr36,h28⟩:=j4 h28
   show l8 Try.prog _ _ _ _
   refine cA (bR0 N a0 a1 a2 x32 r35 hr36) ?_
   refine kp [(1,_),(3,_),(5,_),(6,_),(7,_),(9,_),(62,_),(63,_),(64,_)] [(3,_),(5,_),(6,_)] ?_
   refine j6 hn ?_
   refine p8 hn ?_
   refine l5 h28 (fun hb37 h28=>?_) (fun hb37 h28=>?_)
   ·refine j6 hn ?_
    refine got hn ?_
    refine R18 _ _ ?_
    refine R17 _ _ ?_
    refine R14 _ _ ?_
    refine R13 _ _ ?_
    refine R12 _ _ ?_
    refine R11 _ _ ?_
    obtain rfl:=Option.some.inj h28
    obtain rfl:=Option.some.inj h
    exact ⟨[],_,fm⟩
   refine p9 hn ?_
   refine A18 _ _ ?_
   refine A17 _ _ ?_
   refine q8 hn ?_
   refine Or.inl (And.intro (aE3 hx33 hl25) ?_)
   refine A14 _ _ ?_
   exact jn ⟨(rest29,k26+1),hd2,h28⟩ [] (by show rest29.length < rest29.length+1; omega)
 rintro ⟨⟨⟩,rfl⟩
 refine A11 _ _ ?_
 refine j6 hn ?_
 obtain ⟨r38,hr39,h⟩:=j4 h
 show l8 Try.prog _ _ _ _
 refine cA ((bR1 N a2 r38 hr39).sw 0 82) ?_
 refine j6 hn ?_
 refine got hn ?_
 obtain rfl:=Option.some.inj h
 exact ⟨[],_,fm⟩

/- qcref1.Wrong -/
set_option maxRecDepth 100000 in
set_option maxHeartbeats 8000000 in
theorem bW9 (N:Nat) (a0:V) (a1:Int) (r:Int) (h:aN9 N a0 a1=some r):Spec Try.prog 45 [] [.agg (eV a0),.int a1] (.int r) [] []:=by
 refine Spec.of z8 Try.func45 rfl Try.ntmps45 (by kernel_rfl) rfl rfl rfl fun Γ hn=>?_
 unfold aN9 at h
 refine j6 hn ?_
 refine j5.seqQ fun _ A0 _ R0=>?_
 refine j5.seqQ fun _ A1 _ _=>?_
 obtain ⟨o3,h2,h⟩:=j4 h
 refine jk (ι:={ s // o3=s }) hn (fun s=>[(12,.bool s.1)]) (fun s=>[]) [(1,_),(2,_)] [(2,_)] (fun _ A2 _ _=>?_) ?_
 ·refine q8 hn ?_
  refine l5 h2 (fun hb4 h2=>?_) (fun hb4 h2=>?_)
  ·refine j3 hb4 ?_
   refine j3 hb4 ?_
   refine j3 hb4 ?_
   refine A2 _ _ ?_
   exact jn ⟨_,sj h2⟩ []
  refine d9 hb4 ?_
  refine d9 hb4 ?_
  refine d9 hb4 ?_
  refine A2 _ _ ?_
  exact jn ⟨_,sj h2⟩ []
 rintro ⟨v1,hv_⟩
 replace hv_:=hv_.symm
 subst hv_
 refine A1 _ _ ?_
 refine p8 hn ?_
 refine l5 h (fun hb5 h=>?_) (fun hb5 h=>?_)
 ·refine j6 hn ?_
  refine got hn ?_
  refine R0 _ _ ?_
  obtain rfl:=Option.some.inj h
  exact ⟨[],_,fm⟩
 refine p9 hn ?_
 refine A0 _ _ ?_
 refine j5.seqQ fun _ A3 _ R3=>?_
 refine j5.seqQ fun _ A4 _ _=>?_
 obtain ⟨o8,h7,h⟩:=j4 h
 refine jk (ι:={ s // o8=s }) hn (fun s=>[(20,.bool s.1)]) (fun s=>[]) [(1,_),(2,_)] [(2,_)] (fun _ A5 _ _=>?_) ?_
 ·refine q8 hn ?_
  refine l5 h7 (fun hb9 h7=>?_) (fun hb9 h7=>?_)
  ·refine j3 hb9 ?_
   refine j3 hb9 ?_
   refine j3 hb9 ?_
   refine A5 _ _ ?_
   exact jn ⟨_,sj h7⟩ []
  refine d9 hb9 ?_
  refine d9 hb9 ?_
  refine d9 hb9 ?_
  refine A5 _ _ ?_
  exact jn ⟨_,sj h7⟩ []
 rintro ⟨v6,hv_⟩
 replace hv_:=hv_.symm
 subst hv_
 refine A4 _ _ ?_
 refine p8 hn ?_
 refine l5 h (fun hb10 h=>?_) (fun hb10 h=>?_)
 ·refine j6 hn ?_
  refine got hn ?_
  refine R3 _ _ ?_
  obtain rfl:=Option.some.inj h
  exact ⟨[],_,fm⟩
 refine p9 hn ?_
 refine A3 _ _ ?_
 refine j5.seqQ fun _ A6 _ R6=>?_
 refine j5.seqQ fun _ A7 _ _=>?_
 obtain ⟨o13,h12,h⟩:=j4 h
 refine jk (ι:={ s // o13=s }) hn (fun s=>[(33,.bool s.1)]) (fun s=>[]) [(1,_),(2,_)] [(2,_)] (fun _ A8 _ _=>?_) ?_
 ·refine q8 hn ?_
  refine l5 h12 (fun hb14 h12=>?_) (fun hb14 h12=>?_)
  ·refine j3 hb14 ?_
   refine j3 hb14 ?_
   refine j3 hb14 ?_
   refine l5 h12 (fun hb15 h12=>?_) (fun hb15 h12=>?_)
   ·refine j3 hb15 ?_
    refine j3 hb15 ?_
    refine j3 hb14 ?_
    refine j3 hb15 ?_
    refine j3 hb14 ?_
    refine A8 _ _ ?_
    exact jn ⟨_,sj h12⟩ []
   refine d9 hb15 ?_
   refine d9 hb15 ?_
   refine j3 hb14 ?_
   refine d9 hb15 ?_
   refine j3 hb14 ?_
   refine A8 _ _ ?_
   exact jn ⟨_,sj h12⟩ []
  refine d9 hb14 ?_
  refine d9 hb14 ?_
  refine d9 hb14 ?_
  refine d9 hb14 ?_
  refine d9 hb14 ?_
  refine A8 _ _ ?_
  exact jn ⟨_,sj h12⟩ []
 rintro ⟨v11,hv_⟩
 replace hv_:=hv_.symm
 subst hv_
 refine A7 _ _ ?_
 refine p8 hn ?_
 refine l5 h (fun hb16 h=>?_) (fun hb16 h=>?_)
 ·refine j6 hn ?_
  refine got hn ?_
  refine R6 _ _ ?_
  obtain rfl:=Option.some.inj h
  exact ⟨[],_,fm⟩
 refine p9 hn ?_
 refine A6 _ _ ?_
 refine j5.seqQ fun _ A9 _ R9=>?_
 refine j5.seqQ fun _ A10 _ _=>?_
 obtain ⟨o19,h18,h⟩:=j4 h
 refine jk (ι:={ s // o19=s }) hn (fun s=>[(47,.bool s.1)]) (fun s=>[]) [] [] (fun _ A11 _ _=>?_) ?_
 ·refine q8 hn ?_
  refine l5 h18 (fun hb20 h18=>?_) (fun hb20 h18=>?_)
  ·refine j3 hb20 ?_
   refine j3 hb20 ?_
   refine j3 hb20 ?_
   refine l5 h18 (fun hb21 h18=>?_) (fun hb21 h18=>?_)
   ·refine j3 hb21 ?_
    refine j3 hb21 ?_
    refine j3 hb21 ?_
    refine j3 hb20 ?_
    refine j3 hb21 ?_
    refine j3 hb20 ?_
    refine A11 _ _ ?_
    exact jn ⟨_,sj h18⟩ []
   refine d9 hb21 ?_
   refine d9 hb21 ?_
   refine d9 hb21 ?_
   refine j3 hb20 ?_
   refine d9 hb21 ?_
   refine j3 hb20 ?_
   refine A11 _ _ ?_
   exact jn ⟨_,sj h18⟩ []
  refine d9 hb20 ?_
  refine d9 hb20 ?_
  refine d9 hb20 ?_
  refine d9 hb20 ?_
  refine d9 hb20 ?_
  refine A11 _ _ ?_
  exact jn ⟨_,sj h18⟩ []
 rintro ⟨v17,hv_⟩
 replace hv_:=hv_.symm
 subst hv_
 refine A10 _ _ ?_
 refine p8 hn ?_
 refine l5 h (fun hb22 h=>?_) (fun hb22 h=>?_)
 ·refine j6 hn ?_
  refine got hn ?_
  refine R9 _ _ ?_
  obtain rfl:=Option.some.inj h
  exact ⟨[],_,fm⟩
 refine p9 hn ?_
 refine A9 _ _ ?_
 refine j6 hn ?_
 refine got hn ?_
 obtain rfl:=Option.some.inj h
 exact ⟨[],_,fm⟩

/- qcref1.Right -/
set_option maxRecDepth 100000 in
set_option maxHeartbeats 8000000 in
theorem bW2 (N:Nat) (a0:Wd) (r:Int) (h:aN7 N a0=some r):Spec Try.prog 13 [] [.agg (eWd a0)] (.int r) [] []:=by
 refine Spec.of z8 Try.func13 rfl Try.ntmps13 (by kernel_rfl) rfl rfl rfl fun Γ hn=>?_
 unfold aN7 at h
 refine j6 hn ?_
 refine j6 hn ?_
 obtain ⟨r1,hr2,h⟩:=j4 h
 show l8 Try.prog _ _ _ _
 refine cA (bL2 N  r1 hr2) ?_
 refine j5.seqQ fun _ A0 _ R0=>?_
 refine j5.seqQ fun _ A1 _ _=>?_
 obtain ⟨o5,h4,h⟩:=j4 h
 refine jk (ι:={ s // o5=s }) hn (fun s=>[(39,.bool s.1)]) (fun s=>[]) [(1,_),(3,_)] [(1,_),(3,_)] (fun _ A2 _ _=>?_) ?_
 ·refine q8 hn ?_
  refine D5 (fun _=>?_)
  refine l5 h4 (fun hb7 h4=>?_) (fun hb7 h4=>?_)
  ·refine j3 hb7 ?_
   refine j3 hb7 ?_
   refine j3 hb7 ?_
   refine j3 hb7 ?_
   refine A2 _ _ ?_
   exact jn ⟨_,sj h4⟩ []
  refine d9 hb7 ?_
  refine d9 hb7 ?_
  refine D5 (fun _=>?_)
  refine d9 hb7 ?_
  refine d9 hb7 ?_
  refine l5 h4 (fun hb9 h4=>?_) (fun hb9 h4=>?_)
  ·refine j3 hb9 ?_
   refine j3 hb9 ?_
   refine j3 hb9 ?_
   refine j3 hb9 ?_
   refine A2 _ _ ?_
   exact jn ⟨_,sj h4⟩ []
  refine d9 hb9 ?_
  refine d9 hb9 ?_
  refine D5 (fun _=>?_)
  refine d9 hb9 ?_
  refine d9 hb9 ?_
  refine A2 _ _ ?_
  exact jn ⟨_,sj h4⟩ []
 rintro ⟨v3,hv_⟩
 replace hv_:=hv_.symm
 subst hv_
 refine A1 _ _ ?_
 refine p8 hn ?_
 refine l5 h (fun hb11 h=>?_) (fun hb11 h=>?_)
 ·refine j6 hn ?_
  refine got hn ?_
  refine R0 _ _ ?_
  obtain rfl:=Option.some.inj h
  exact ⟨[],_,fm⟩
 refine p9 hn ?_
 refine A0 _ _ ?_
 refine j5.seqQ fun _ A3 _ R3=>?_
 refine j5.seqQ fun _ A4 _ _=>?_
 obtain ⟨o14,h13,h⟩:=j4 h
 refine jk (ι:={ s // o14=s }) hn (fun s=>[(47,.bool s.1)]) (fun s=>[]) [(1,_),(3,_)] [(1,_),(3,_)] (fun _ A5 _ _=>?_) ?_
 ·refine q8 hn ?_
  refine l5 h13 (fun hb15 h13=>?_) (fun hb15 h13=>?_)
  ·refine j3 hb15 ?_
   refine j3 hb15 ?_
   refine j3 hb15 ?_
   refine A5 _ _ ?_
   exact jn ⟨_,sj h13⟩ []
  refine d9 hb15 ?_
  refine d9 hb15 ?_
  refine d9 hb15 ?_
  refine A5 _ _ ?_
  exact jn ⟨_,sj h13⟩ []
 rintro ⟨v12,hv_⟩
 replace hv_:=hv_.symm
 subst hv_
 refine A4 _ _ ?_
 refine p8 hn ?_
 refine l5 h (fun hb16 h=>?_) (fun hb16 h=>?_)
 ·refine j6 hn ?_
  refine got hn ?_
  refine R3 _ _ ?_
  obtain rfl:=Option.some.inj h
  exact ⟨[],_,fm⟩
 refine p9 hn ?_
 refine A3 _ _ ?_
 refine j5.seqQ fun _ A6 _ R6=>?_
 refine j6 hn ?_
 refine D5 (fun hl17=>?_)
 obtain ⟨o19,h20,h⟩:=j4 h
 refine jk (ι:={ s // o19=D9.next s }) hn (fun s=>[]) (fun s=>[]) [(1,_),(3,_)] [(1,_),(3,_)] (fun _ A7 _ R7=>?_) ?_
 ·refine j5.blkQ fun _ _ E8 _ R8=>?_
  refine lq (ι:={ q:((List Cl)×Nat) // q.1=a0.classes.drop q.2∧Q8 N a0 r1 q.1 q.2=some o19 }) hn (fun q=>[(51,.int (q.1.2:Int))]) (fun q=>[]) (fun q=>q.1.1.length) [(1,_),(3,_),(49,_),(50,_)] [(1,_),(3,_)] ⟨(a0.classes,0),rfl,h20⟩ [] ?_
  rintro ⟨⟨rest_,k18⟩,hd22,h20⟩ _ A9 X9 R9
  replace hd22:rest_=a0.classes.drop k18:=hd22
  rcases rest_ with _|⟨x24,rest21⟩
  ·have hlt26:=N9 hd22
   replace h20:=(Q8.eq_1 _ _ _ _).symm.trans h20
   refine j6 hn ?_
   refine j5.seqQ fun _ _ X10 _=>?_
   refine p8 hn ?_
   refine d9 hlt26 ?_
   refine F6 hn ?_
   refine X10 _ _ _ ?_
   refine X9 _ _ _ ?_
   refine E8 _ _ ?_
   refine A7 _ _ ?_
   exact jn ⟨_,sj h20⟩ []
  ·obtain ⟨hx25,hd2,hlt26⟩:=H9 hd22
   replace h20:=(Q8.eq_2 _ _ _ _ _ _).symm.trans h20
   refine j6 hn ?_
   refine j5.seqQ fun _ A11 _ _=>?_
   refine p8 hn ?_
   refine j3 hlt26 ?_
   refine p9 hn ?_
   refine A11 _ _ ?_
   refine j5.seqQ fun _ A12 _ R12=>?_
   refine j5.blkQ fun _ A13 _ _ R13=>?_
   refine j6 hn ?_
   refine aJ1 hx25 ?_
   refine j5.seqQ fun _ A14 _ R14=>?_
   refine j5.seqQ fun _ A15 _ _=>?_
   obtain ⟨o29,h28,h20⟩:=j4 h20
   refine jk (ι:={ s // o29=s }) hn (fun s=>[(74,.bool s.1)]) (fun s=>[]) [(1,_),(3,_),(4,_),(5,_),(49,_),(50,_),(51,_)] [(1,_),(3,_),(5,_)] (fun _ A16 _ _=>?_) ?_
   ·refine kp [(1,_),(3,_),(4,_),(5,_),(49,_),(50,_),(51,_)] [(1,_),(3,_),(5,_)] ?_
    refine P5 hn (by kernel_rfl) ?_
    obtain ⟨r30,hr31,h28⟩:=j4 h28
    show l8 Try.prog _ _ _ _
    refine cA (aP3 N x24.name r30 hr31) ?_
    refine l5 h28 (fun hb32 h28=>?_) (fun hb32 h28=>?_)
    ·refine j3 hb32 ?_
     refine j3 hb32 ?_
     refine j3 hb32 ?_
     refine j3 hb32 ?_
     refine A16 _ _ ?_
     exact jn ⟨_,sj h28⟩ []
    refine d9 hb32 ?_
    refine d9 hb32 ?_
    refine l5 h28 (fun hb33 h28=>?_) (fun hb33 h28=>?_)
    ·refine j3 hb33 ?_
     refine j3 hb33 ?_
     refine j3 hb33 ?_
     refine j3 hb33 ?_
     refine j3 hb33 ?_
     obtain ⟨x34,hx35,h28⟩:=j4 h28
     refine V5 hx35 ?_
     refine j3 hb33 ?_
     refine j3 hb33 ?_
     refine j3 hb33 ?_
     refine d9 hb32 ?_
     refine j3 hb33 ?_
     refine d9 hb32 ?_
     refine A16 _ _ ?_
     exact jn ⟨_,sj h28⟩ []
    refine d9 hb33 ?_
    refine d9 hb33 ?_
    refine d9 hb33 ?_
    refine d9 hb33 ?_
    refine d9 hb33 ?_
    refine d9 hb33 ?_
    refine d9 hb33 ?_
    refine d9 hb33 ?_
    refine d9 hb32 ?_
    refine d9 hb33 ?_
    refine d9 hb32 ?_
    refine A16 _ _ ?_
    exact jn ⟨_,sj h28⟩ []
   rintro ⟨v27,hv_⟩
   replace hv_:=hv_.symm
   subst hv_
   refine A15 _ _ ?_
   refine p8 hn ?_
   refine l5 h20 (fun hb36 h20=>?_) (fun hb36 h20=>?_)
   ·refine j6 hn ?_
    refine got hn ?_
    refine R14 _ _ ?_
    refine R13 _ _ ?_
    refine R12 _ _ ?_
    refine R9 _ _ ?_
    refine R8 _ _ ?_
    refine R7 _ _ ?_
    refine R6 _ _ ?_
    obtain rfl:=Option.some.inj h20
    obtain rfl:=Option.some.inj h
    exact ⟨[],_,fm⟩
   refine p9 hn ?_
   refine A14 _ _ ?_
   refine j5.seqQ fun _ A17 _ R17=>?_
   refine j6 hn ?_
   obtain ⟨hg37,h20⟩:=G5 h20
   refine bP5 hg37 rfl rfl ?_
   refine D5 (fun hl38=>?_)
   obtain ⟨o40,h41,h20⟩:=j4 h20
   refine jk (ι:={ s // o40=D9.next s }) hn (fun s=>[]) (fun s=>[]) [(1,_),(3,_),(4,_),(5,_),(49,_),(50,_),(51,_)] [(1,_),(3,_),(5,_)] (fun _ A18 _ R18=>?_) ?_
   ·refine j5.blkQ fun _ _ E19 _ R19=>?_
    refine lq (ι:={ q:((List Cl)×Nat) // q.1=(a0.classes.take (k18:Int).toNat).drop q.2∧U6 N x24 q.1 q.2=some o40 }) hn (fun q=>[(80,.int (q.1.2:Int))]) (fun q=>[]) (fun q=>q.1.1.length) [(1,_),(3,_),(4,_),(5,_),(49,_),(50,_),(51,_),(78,_),(79,_)] [(1,_),(3,_),(5,_)] ⟨((a0.classes.take (k18:Int).toNat),0),rfl,h41⟩ [] ?_
    rintro ⟨⟨rest_,k39⟩,hd43,h41⟩ _ A20 X20 R20
    replace hd43:rest_=(a0.classes.take (k18:Int).toNat).drop k39:=hd43
    rcases rest_ with _|⟨x45,rest42⟩
    ·have hlt47:=N9 hd43
     replace h41:=(U6.eq_1 _ _ _).symm.trans h41
     refine j6 hn ?_
     refine j5.seqQ fun _ _ X21 _=>?_
     refine p8 hn ?_
     refine d9 hlt47 ?_
     refine F6 hn ?_
     refine X21 _ _ _ ?_
     refine X20 _ _ _ ?_
     refine E19 _ _ ?_
     refine A18 _ _ ?_
     exact jn ⟨_,sj h41⟩ []
    ·obtain ⟨hx46,hd2,hlt47⟩:=H9 hd43
     replace h41:=(U6.eq_2 _ _ _ _ _).symm.trans h41
     refine j6 hn ?_
     refine j5.seqQ fun _ A22 _ _=>?_
     refine p8 hn ?_
     refine j3 hlt47 ?_
     refine p9 hn ?_
     refine A22 _ _ ?_
     refine j5.seqQ fun _ A23 _ R23=>?_
     refine j5.blkQ fun _ A24 _ _ R24=>?_
     refine j6 hn ?_
     refine aJ1 hx46 ?_
     refine j6 hn ?_
     refine p8 hn ?_
     refine l5 h41 (fun hb48 h41=>?_) (fun hb48 h41=>?_)
     ·refine kp [] [] ?_
      refine j6 hn ?_
      refine got hn ?_
      refine R24 _ _ ?_
      refine R23 _ _ ?_
      refine R20 _ _ ?_
      refine R19 _ _ ?_
      refine R18 _ _ ?_
      refine R17 _ _ ?_
      refine R13 _ _ ?_
      refine R12 _ _ ?_
      refine R9 _ _ ?_
      refine R8 _ _ ?_
      refine R7 _ _ ?_
      refine R6 _ _ ?_
      obtain rfl:=Option.some.inj h41
      obtain rfl:=Option.some.inj h20
      obtain rfl:=Option.some.inj h
      exact ⟨[],_,fm⟩
     refine p9 hn ?_
     refine A24 _ _ ?_
     refine A23 _ _ ?_
     refine kp [(1,_),(3,_),(4,_),(5,_),(49,_),(50,_),(51,_),(78,_),(79,_),(80,_)] [(1,_),(3,_),(5,_)] ?_
     refine q8 hn ?_
     refine Or.inl (And.intro (aE3 hx46 hl38) ?_)
     refine A20 _ _ ?_
     exact jn ⟨(rest42,k39+1),hd2,h41⟩ [] (by show rest42.length < rest42.length+1; omega)
   rintro ⟨⟨⟩,rfl⟩
   refine A17 _ _ ?_
   refine j6 hn ?_
   refine j5.seqQ fun _ A25 _ R25=>?_
   refine j6 hn ?_
   obtain ⟨o51,h50,h20⟩:=j4 h20
   refine jk (ι:={ s // o51=D9.next s }) hn (fun s=>[(9,.int s.1)]) (fun s=>[]) [(1,_),(3,_),(5,_),(8,_),(49,_),(50,_),(51,_)] [(1,_),(3,_),(5,_)] (fun _ A26 _ R26=>?_) ?_
   ·refine p8 hn ?_
    refine l5 h50 (fun hb52 h50=>?_) (fun hb52 h50=>?_)
    ·refine j6 hn ?_
     refine j5.seqQ fun _ A27 _ _=>?_
     refine P5 hn (by kernel_rfl) ?_
     obtain ⟨x53,hx54,h50⟩:=j4 h50
     refine V5 hx54 ?_
     refine A27 _ _ ?_
     refine p8 hn ?_
     refine l5 h50 (fun hb55 h50=>?_) (fun hb55 h50=>?_)
     ·refine kp [] [] ?_
      refine j6 hn ?_
      refine got hn ?_
      refine R26 _ _ ?_
      refine R25 _ _ ?_
      refine R13 _ _ ?_
      refine R12 _ _ ?_
      refine R9 _ _ ?_
      refine R8 _ _ ?_
      refine R7 _ _ ?_
      refine R6 _ _ ?_
      obtain rfl:=Option.some.inj h50
      obtain rfl:=Option.some.inj h20
      obtain rfl:=Option.some.inj h
      exact ⟨[],_,fm⟩
     refine p9 hn ?_
     refine A26 _ _ ?_
     exact jn ⟨_,sj h50⟩ []
    refine j5.seqQ fun _ A28 _ _=>?_
    obtain ⟨o58,h57,h50⟩:=j4 h50
    refine jk (ι:={ s // o58=s }) hn (fun s=>[(119,.bool s.1)]) (fun s=>[]) [(1,_),(3,_),(5,_),(8,_),(9,_),(49,_),(50,_),(51,_)] [(1,_),(3,_),(5,_)] (fun _ A29 _ _=>?_) ?_
    ·refine q8 hn ?_
     refine l5 h57 (fun hb59 h57=>?_) (fun hb59 h57=>?_)
     ·refine j3 hb59 ?_
      refine j3 hb59 ?_
      refine j3 hb59 ?_
      refine j3 hb59 ?_
      refine A29 _ _ ?_
      exact jn ⟨_,sj h57⟩ []
     refine d9 hb59 ?_
     refine d9 hb59 ?_
     refine d9 hb59 ?_
     refine d9 hb59 ?_
     refine l5 h57 (fun hb60 h57=>?_) (fun hb60 h57=>?_)
     ·refine j3 hb60 ?_
      refine j3 hb60 ?_
      refine j3 hb60 ?_
      refine j3 hb60 ?_
      refine j3 hb60 ?_
      refine A29 _ _ ?_
      exact jn ⟨_,sj h57⟩ []
     refine d9 hb60 ?_
     refine d9 hb60 ?_
     refine d9 hb60 ?_
     refine l5 h57 (fun hb61 h57=>?_) (fun hb61 h57=>?_)
     ·refine j3 hb61 ?_
      refine j3 hb61 ?_
      refine d9 hb60 ?_
      refine j3 hb61 ?_
      refine d9 hb60 ?_
      refine A29 _ _ ?_
      exact jn ⟨_,sj h57⟩ []
     refine d9 hb61 ?_
     refine d9 hb61 ?_
     refine d9 hb60 ?_
     refine d9 hb61 ?_
     refine d9 hb60 ?_
     refine A29 _ _ ?_
     exact jn ⟨_,sj h57⟩ []
    rintro ⟨v56,hv_⟩
    replace hv_:=hv_.symm
    subst hv_
    refine A28 _ _ ?_
    refine p8 hn ?_
    refine l5 h50 (fun hb62 h50=>?_) (fun hb62 h50=>?_)
    ·refine j6 hn ?_
     refine got hn ?_
     refine R26 _ _ ?_
     refine R25 _ _ ?_
     refine R13 _ _ ?_
     refine R12 _ _ ?_
     refine R9 _ _ ?_
     refine R8 _ _ ?_
     refine R7 _ _ ?_
     refine R6 _ _ ?_
     obtain rfl:=Option.some.inj h50
     obtain rfl:=Option.some.inj h20
     obtain rfl:=Option.some.inj h
     exact ⟨[],_,fm⟩
    refine p9 hn ?_
    refine A26 _ _ ?_
    exact jn ⟨_,sj h50⟩ []
   rintro ⟨v49,rfl⟩
   refine A25 _ _ ?_
   refine j5.seqQ fun _ A30 _ _=>?_
   obtain ⟨o65,h64,h20⟩:=j4 h20
   refine jk (ι:={ s // o65=s }) hn (fun s=>[(129,.bool s.1)]) (fun s=>[]) [(1,_),(3,_),(49,_),(50,_),(51,_)] [(1,_),(3,_)] (fun _ A31 _ _=>?_) ?_
   ·refine q8 hn ?_
    refine l5 h64 (fun hb66 h64=>?_) (fun hb66 h64=>?_)
    ·refine j3 hb66 ?_
     refine j3 hb66 ?_
     refine j3 hb66 ?_
     refine j3 hb66 ?_
     refine A31 _ _ ?_
     exact jn ⟨_,sj h64⟩ []
    refine d9 hb66 ?_
    refine d9 hb66 ?_
    refine d9 hb66 ?_
    refine d9 hb66 ?_
    refine A31 _ _ ?_
    exact jn ⟨_,sj h64⟩ []
   rintro ⟨v63,hv_⟩
   replace hv_:=hv_.symm
   subst hv_
   refine A30 _ _ ?_
   refine p8 hn ?_
   refine l5 h20 (fun hb67 h20=>?_) (fun hb67 h20=>?_)
   ·refine j6 hn ?_
    refine got hn ?_
    refine R13 _ _ ?_
    refine R12 _ _ ?_
    refine R9 _ _ ?_
    refine R8 _ _ ?_
    refine R7 _ _ ?_
    refine R6 _ _ ?_
    obtain rfl:=Option.some.inj h20
    obtain rfl:=Option.some.inj h
    exact ⟨[],_,fm⟩
   refine p9 hn ?_
   refine A13 _ _ ?_
   refine A12 _ _ ?_
   refine q8 hn ?_
   refine Or.inl (And.intro (aE3 hx25 hl17) ?_)
   refine A9 _ _ ?_
   exact jn ⟨(rest21,k18+1),hd2,h20⟩ [] (by show rest21.length < rest21.length+1; omega)
 rintro ⟨⟨⟩,rfl⟩
 refine A6 _ _ ?_
 refine j5.seqQ fun _ A32 _ R32=>?_
 refine j6 hn ?_
 refine D5 (fun hl68=>?_)
 obtain ⟨o70,h71,h⟩:=j4 h
 refine jk (ι:={ s // o70=D9.next s }) hn (fun s=>[]) (fun s=>[]) [(1,_)] [(1,_)] (fun _ A33 _ R33=>?_) ?_
 ·refine j5.blkQ fun _ _ E34 _ R34=>?_
  refine lq (ι:={ q:((List Cl)×Nat) // q.1=a0.classes.drop q.2∧Y2 N a0 r1 q.1 q.2=some o70 }) hn (fun q=>[(134,.int (q.1.2:Int))]) (fun q=>[]) (fun q=>q.1.1.length) [(1,_),(3,_),(132,_),(133,_)] [(1,_),(3,_)] ⟨(a0.classes,0),rfl,h71⟩ [] ?_
  rintro ⟨⟨rest_,k69⟩,hd73,h71⟩ _ A35 X35 R35
  replace hd73:rest_=a0.classes.drop k69:=hd73
  rcases rest_ with _|⟨x75,rest72⟩
  ·have hlt77:=N9 hd73
   replace h71:=(Y2.eq_1 _ _ _ _).symm.trans h71
   refine j6 hn ?_
   refine j5.seqQ fun _ _ X36 _=>?_
   refine p8 hn ?_
   refine d9 hlt77 ?_
   refine F6 hn ?_
   refine X36 _ _ _ ?_
   refine X35 _ _ _ ?_
   refine E34 _ _ ?_
   refine A33 _ _ ?_
   exact jn ⟨_,sj h71⟩ []
  ·obtain ⟨hx76,hd2,hlt77⟩:=H9 hd73
   replace h71:=(Y2.eq_2 _ _ _ _ _ _).symm.trans h71
   refine j6 hn ?_
   refine j5.seqQ fun _ A37 _ _=>?_
   refine p8 hn ?_
   refine j3 hlt77 ?_
   refine p9 hn ?_
   refine A37 _ _ ?_
   refine j5.seqQ fun _ A38 _ R38=>?_
   refine j5.blkQ fun _ A39 _ _ R39=>?_
   refine j6 hn ?_
   refine aJ1 hx76 ?_
   refine j5.seqQ fun _ A40 _ R40=>?_
   refine j6 hn ?_
   obtain ⟨r78,hr79,h71⟩:=j4 h71
   show l8 Try.prog _ _ _ _
   refine cA (aG8 N a0 (k69:Int) r78 hr79) ?_
   refine p8 hn ?_
   refine l5 h71 (fun hb80 h71=>?_) (fun hb80 h71=>?_)
   ·refine j6 hn ?_
    refine got hn ?_
    refine R40 _ _ ?_
    refine R39 _ _ ?_
    refine R38 _ _ ?_
    refine R35 _ _ ?_
    refine R34 _ _ ?_
    refine R33 _ _ ?_
    refine R32 _ _ ?_
    obtain rfl:=Option.some.inj h71
    obtain rfl:=Option.some.inj h
    exact ⟨[],_,fm⟩
   refine p9 hn ?_
   refine A40 _ _ ?_
   refine j5.seqQ fun _ A41 _ R41=>?_
   refine j6 hn ?_
   refine D5 (fun _=>?_)
   refine p8 hn ?_
   refine l5 h71 (fun hb82 h71=>?_) (fun hb82 h71=>?_)
   ·refine kp [] [] ?_
    refine j6 hn ?_
    refine got hn ?_
    refine R41 _ _ ?_
    refine R39 _ _ ?_
    refine R38 _ _ ?_
    refine R35 _ _ ?_
    refine R34 _ _ ?_
    refine R33 _ _ ?_
    refine R32 _ _ ?_
    obtain rfl:=Option.some.inj h71
    obtain rfl:=Option.some.inj h
    exact ⟨[],_,fm⟩
   refine p9 hn ?_
   refine A41 _ _ ?_
   refine kp [(1,_),(3,_),(10,_),(11,_),(132,_),(133,_),(134,_)] [(1,_),(3,_),(11,_)] ?_
   refine j6 hn ?_
   refine D5 (fun hl83=>?_)
   obtain ⟨o85,h86,h71⟩:=j4 h71
   refine jk (ι:={ s // o85=D9.next s }) hn (fun s=>[]) (fun s=>[]) [(1,_),(3,_),(132,_),(133,_),(134,_)] [(1,_),(3,_)] (fun _ A42 _ R42=>?_) ?_
   ·refine j5.blkQ fun _ _ E43 _ R43=>?_
    refine lq (ι:={ q:((List Me)×Nat) // q.1=x75.methods.drop q.2∧Q5 N a0 r1 k69 x75 q.1 q.2=some o85 }) hn (fun q=>[(150,.int (q.1.2:Int))]) (fun q=>[]) (fun q=>q.1.1.length) [(1,_),(3,_),(10,_),(11,_),(132,_),(133,_),(134,_),(148,_),(149,_)] [(1,_),(3,_),(11,_)] ⟨(x75.methods,0),rfl,h86⟩ [] ?_
    rintro ⟨⟨rest_,k84⟩,hd88,h86⟩ _ A44 X44 R44
    replace hd88:rest_=x75.methods.drop k84:=hd88
    rcases rest_ with _|⟨x90,rest87⟩
    ·have hlt92:=N9 hd88
     replace h86:=(Q5.eq_1 _ _ _ _ _ _).symm.trans h86
     refine j6 hn ?_
     refine j5.seqQ fun _ _ X45 _=>?_
     refine p8 hn ?_
     refine d9 hlt92 ?_
     refine F6 hn ?_
     refine X45 _ _ _ ?_
     refine X44 _ _ _ ?_
     refine E43 _ _ ?_
     refine A42 _ _ ?_
     exact jn ⟨_,sj h86⟩ []
    ·obtain ⟨hx91,hd2,hlt92⟩:=H9 hd88
     replace h86:=(Q5.eq_2 _ _ _ _ _ _ _ _).symm.trans h86
     refine j6 hn ?_
     refine j5.seqQ fun _ A46 _ _=>?_
     refine p8 hn ?_
     refine j3 hlt92 ?_
     refine p9 hn ?_
     refine A46 _ _ ?_
     refine j5.seqQ fun _ A47 _ R47=>?_
     refine j5.blkQ fun _ A48 _ _ R48=>?_
     refine j6 hn ?_
     refine aJ1 hx91 ?_
     refine j5.seqQ fun _ A49 _ R49=>?_
     refine j5.seqQ fun _ A50 _ _=>?_
     obtain ⟨o95,h94,h86⟩:=j4 h86
     refine jk (ι:={ s // o95=s }) hn (fun s=>[(168,.bool s.1)]) (fun s=>[]) [(1,_),(3,_),(10,_),(11,_),(13,_),(132,_),(133,_),(134,_),(148,_),(149,_),(150,_)] [(1,_),(3,_),(11,_),(13,_)] (fun _ A51 _ _=>?_) ?_
     ·refine P5 hn (by kernel_rfl) ?_
      refine l5 h94 (fun hb96 h94=>?_) (fun hb96 h94=>?_)
      ·refine j3 hb96 ?_
       refine j3 hb96 ?_
       refine j3 hb96 ?_
       refine Or.inr ?_
       refine j3 hb96 ?_
       obtain ⟨x97,hx98,h94⟩:=j4 h94
       refine V5 hx98 ?_
       refine j3 hb96 ?_
       refine j3 hb96 ?_
       refine j3 hb96 ?_
       refine j3 hb96 ?_
       refine j3 hb96 ?_
       refine j3 hb96 ?_
       refine A51 _ _ ?_
       exact jn ⟨_,sj h94⟩ []
      refine d9 hb96 ?_
      refine d9 hb96 ?_
      refine d9 hb96 ?_
      refine d9 hb96 ?_
      refine d9 hb96 ?_
      refine d9 hb96 ?_
      refine d9 hb96 ?_
      refine d9 hb96 ?_
      refine d9 hb96 ?_
      refine d9 hb96 ?_
      refine A51 _ _ ?_
      exact jn ⟨_,sj h94⟩ []
     rintro ⟨v93,hv_⟩
     replace hv_:=hv_.symm
     subst hv_
     refine A50 _ _ ?_
     refine p8 hn ?_
     refine l5 h86 (fun hb99 h86=>?_) (fun hb99 h86=>?_)
     ·refine j6 hn ?_
      refine got hn ?_
      refine R49 _ _ ?_
      refine R48 _ _ ?_
      refine R47 _ _ ?_
      refine R44 _ _ ?_
      refine R43 _ _ ?_
      refine R42 _ _ ?_
      refine R39 _ _ ?_
      refine R38 _ _ ?_
      refine R35 _ _ ?_
      refine R34 _ _ ?_
      refine R33 _ _ ?_
      refine R32 _ _ ?_
      obtain rfl:=Option.some.inj h86
      obtain rfl:=Option.some.inj h71
      obtain rfl:=Option.some.inj h
      exact ⟨[],_,fm⟩
     refine p9 hn ?_
     refine A49 _ _ ?_
     refine j6 hn ?_
     refine j5.seqQ fun _ A52 _ _=>?_
     refine j6 hn ?_
     obtain ⟨x100,hx101,h86⟩:=j4 h86
     refine V5 hx101 ?_
     refine D5 (fun hl102=>?_)
     obtain ⟨o107,h108,h86⟩:=j4 h86
     refine jk (ι:={ s // o107=s }) hn (fun s=>[(14,.bool s.1)]) (fun s=>[]) [(1,_),(3,_),(10,_),(11,_),(13,_),(132,_),(133,_),(134,_),(148,_),(149,_),(150,_)] [(1,_),(3,_),(11,_),(13,_)] (fun _ A53 _ _=>?_) ?_
     ·refine j5.blkQ fun _ _ E54 _ _=>?_
      refine lq (ι:={ q:((List Me)×Nat×Bool) // q.1=x100.methods.drop q.2.1∧U5 N k69 x90 q.1 q.2.1 q.2.2=some o107 }) hn (fun q=>[(14,.bool q.1.2.2),(175,.int (q.1.2.1:Int))]) (fun q=>[]) (fun q=>q.1.1.length) [(1,_),(3,_),(10,_),(11,_),(13,_),(132,_),(133,_),(134,_),(148,_),(149,_),(150,_),(173,_),(174,_)] [(1,_),(3,_),(11,_),(13,_)] ⟨(x100.methods,0,false),rfl,h108⟩ [] ?_
      rintro ⟨⟨rest_,k103,v104⟩,hd110,h108⟩ _ A55 X55 _
      replace hd110:rest_=x100.methods.drop k103:=hd110
      rcases rest_ with _|⟨x112,rest109⟩
      ·have hlt114:=N9 hd110
       replace h108:=(U5.eq_1 _ _ _ _ _).symm.trans h108
       refine j6 hn ?_
       refine j5.seqQ fun _ _ X56 _=>?_
       refine p8 hn ?_
       refine d9 hlt114 ?_
       refine F6 hn ?_
       refine X56 _ _ _ ?_
       refine X55 _ _ _ ?_
       refine E54 _ _ ?_
       refine A53 _ _ ?_
       exact jn ⟨_,sj h108⟩ []
      ·obtain ⟨hx113,hd2,hlt114⟩:=H9 hd110
       replace h108:=(U5.eq_2 _ _ _ _ _ _ _).symm.trans h108
       refine j6 hn ?_
       refine j5.seqQ fun _ A57 _ _=>?_
       refine p8 hn ?_
       refine j3 hlt114 ?_
       refine p9 hn ?_
       refine A57 _ _ ?_
       refine j5.seqQ fun _ A58 _ _=>?_
       obtain ⟨o117,h116,h108⟩:=j4 h108
       refine jk (ι:={ s // o117=s }) hn (fun s=>[(14,.bool s.1)]) (fun s=>[]) [(1,_),(3,_),(10,_),(11,_),(13,_),(132,_),(133,_),(134,_),(148,_),(149,_),(150,_),(173,_),(174,_),(175,_)] [(1,_),(3,_),(11,_),(13,_)] (fun _ A59 _ _=>?_) ?_
       ·refine j5.blkQ fun _ A60 _ _ _=>?_
        refine j6 hn ?_
        refine aJ1 hx113 ?_
        obtain ⟨o120,h119,h116⟩:=j4 h116
        refine jk (ι:={ s // o120=s }) hn (fun s=>[(14,.bool s.1)]) (fun s=>[]) [(1,_),(3,_),(10,_),(11,_),(13,_),(132,_),(133,_),(134,_),(148,_),(149,_),(150,_),(173,_),(174,_),(175,_)] [(1,_),(3,_),(11,_),(13,_)] (fun _ A61 _ _=>?_) ?_
        ·refine kp [(1,_),(3,_),(10,_),(11,_),(13,_),(14,_),(16,_),(132,_),(133,_),(134,_),(148,_),(149,_),(150,_),(173,_),(174,_),(175,_)] [(1,_),(3,_),(11,_),(13,_),(16,_)] ?_
         refine q8 hn ?_
         refine l5 h119 (fun hb121 h119=>?_) (fun hb121 h119=>?_)
         ·refine j3 hb121 ?_
          refine j3 hb121 ?_
          refine j3 hb121 ?_
          refine j3 hb121 ?_
          refine j3 hb121 ?_
          refine j3 hb121 ?_
          refine j3 hb121 ?_
          refine j3 hb121 ?_
          refine j3 hb121 ?_
          refine j3 hb121 ?_
          refine j3 hb121 ?_
          refine j3 hb121 ?_
          refine A61 _ _ ?_
          exact jn ⟨_,sj h119⟩ []
         refine d9 hb121 ?_
         refine d9 hb121 ?_
         refine l5 h119 (fun hb122 h119=>?_) (fun hb122 h119=>?_)
         ·refine j3 hb122 ?_
          refine j3 hb122 ?_
          refine j3 hb122 ?_
          refine j3 hb122 ?_
          refine d9 hb121 ?_
          refine j3 hb122 ?_
          refine d9 hb121 ?_
          refine l5 h119 (fun hb123 h119=>?_) (fun hb123 h119=>?_)
          ·refine j3 hb123 ?_
           refine j3 hb123 ?_
           refine j3 hb123 ?_
           refine j3 hb123 ?_
           refine d9 hb121 ?_
           refine j3 hb123 ?_
           refine d9 hb121 ?_
           refine l5 h119 (fun hb124 h119=>?_) (fun hb124 h119=>?_)
           ·refine j3 hb124 ?_
            refine j3 hb124 ?_
            refine d9 hb121 ?_
            refine j3 hb124 ?_
            refine d9 hb121 ?_
            refine l5 h119 (fun hb125 h119=>?_) (fun hb125 h119=>?_)
            ·refine j3 hb125 ?_
             refine j3 hb125 ?_
             refine d9 hb121 ?_
             refine j3 hb125 ?_
             refine d9 hb121 ?_
             refine l5 h119 (fun hb126 h119=>?_) (fun hb126 h119=>?_)
             ·refine j3 hb126 ?_
              refine j3 hb126 ?_
              refine D5 (fun _=>?_)
              refine j3 hb126 ?_
              refine d9 hb121 ?_
              refine j3 hb126 ?_
              refine d9 hb121 ?_
              refine A61 _ _ ?_
              exact jn ⟨_,sj h119⟩ []
             refine d9 hb126 ?_
             refine d9 hb126 ?_
             refine d9 hb126 ?_
             refine d9 hb121 ?_
             refine d9 hb126 ?_
             refine d9 hb121 ?_
             refine A61 _ _ ?_
             exact jn ⟨_,sj h119⟩ []
            refine d9 hb125 ?_
            refine d9 hb125 ?_
            refine d9 hb121 ?_
            refine d9 hb125 ?_
            refine d9 hb121 ?_
            refine d9 hb121 ?_
            refine d9 hb121 ?_
            refine A61 _ _ ?_
            exact jn ⟨_,sj h119⟩ []
           refine d9 hb124 ?_
           refine d9 hb124 ?_
           refine d9 hb121 ?_
           refine d9 hb124 ?_
           refine d9 hb121 ?_
           refine d9 hb121 ?_
           refine d9 hb121 ?_
           refine d9 hb121 ?_
           refine d9 hb121 ?_
           refine A61 _ _ ?_
           exact jn ⟨_,sj h119⟩ []
          refine d9 hb123 ?_
          refine d9 hb123 ?_
          refine d9 hb123 ?_
          refine d9 hb123 ?_
          refine d9 hb121 ?_
          refine d9 hb123 ?_
          refine d9 hb121 ?_
          refine d9 hb121 ?_
          refine d9 hb121 ?_
          refine d9 hb121 ?_
          refine d9 hb121 ?_
          refine d9 hb121 ?_
          refine d9 hb121 ?_
          refine A61 _ _ ?_
          exact jn ⟨_,sj h119⟩ []
         refine d9 hb122 ?_
         refine d9 hb122 ?_
         refine d9 hb122 ?_
         refine d9 hb122 ?_
         refine d9 hb121 ?_
         refine d9 hb122 ?_
         refine d9 hb121 ?_
         refine d9 hb121 ?_
         refine d9 hb121 ?_
         refine d9 hb121 ?_
         refine d9 hb121 ?_
         refine d9 hb121 ?_
         refine d9 hb121 ?_
         refine d9 hb121 ?_
         refine d9 hb121 ?_
         refine A61 _ _ ?_
         exact jn ⟨_,sj h119⟩ []
        rintro ⟨v118,hv_⟩
        replace hv_:=hv_.symm
        subst hv_
        refine A60 _ _ ?_
        refine A59 _ _ ?_
        exact jn ⟨_,sj h116⟩ []
       rintro ⟨v115,hv_⟩
       replace hv_:=hv_.symm
       subst hv_
       refine A58 _ _ ?_
       refine q8 hn ?_
       refine Or.inl (And.intro (aE3 hx113 hl102) ?_)
       refine A55 _ _ ?_
       exact jn ⟨(rest109,k103+1,v115),hd2,h108⟩ [] (by show rest109.length < rest109.length+1; omega)
     rintro ⟨v106,hv_⟩
     replace hv_:=hv_.symm
     subst hv_
     refine A52 _ _ ?_
     refine j6 hn ?_
     obtain ⟨r128,hr129,h86⟩:=j4 h86
     show l8 Try.prog _ _ _ _
     refine cA (bX3 N a0 (k69:Int) x90 r128 hr129) ?_
     refine j5.seqQ fun _ A62 _ _=>?_
     obtain ⟨o132,h131,h86⟩:=j4 h86
     refine jk (ι:={ s // o132=s }) hn (fun s=>[(225,.bool s.1)]) (fun s=>[]) [(1,_),(3,_),(10,_),(11,_),(17,_),(132,_),(133,_),(134,_),(148,_),(149,_),(150,_)] [(1,_),(3,_),(11,_),(17,_)] (fun _ A63 _ _=>?_) ?_
     ·refine kp [(1,_),(3,_),(10,_),(11,_),(14,_),(17,_),(132,_),(133,_),(134,_),(148,_),(149,_),(150,_)] [(1,_),(3,_),(11,_),(17,_)] ?_
      refine q8 hn ?_
      refine l5 h131 (fun hb133 h131=>?_) (fun hb133 h131=>?_)
      ·refine j3 hb133 ?_
       refine j3 hb133 ?_
       refine j3 hb133 ?_
       refine A63 _ _ ?_
       exact jn ⟨_,sj h131⟩ []
      refine d9 hb133 ?_
      refine d9 hb133 ?_
      refine d9 hb133 ?_
      refine A63 _ _ ?_
      exact jn ⟨_,sj h131⟩ []
     rintro ⟨v130,hv_⟩
     replace hv_:=hv_.symm
     subst hv_
     refine A62 _ _ ?_
     refine p8 hn ?_
     refine l5 h86 (fun hb134 h86=>?_) (fun hb134 h86=>?_)
     ·refine j6 hn ?_
      refine got hn ?_
      refine R48 _ _ ?_
      refine R47 _ _ ?_
      refine R44 _ _ ?_
      refine R43 _ _ ?_
      refine R42 _ _ ?_
      refine R39 _ _ ?_
      refine R38 _ _ ?_
      refine R35 _ _ ?_
      refine R34 _ _ ?_
      refine R33 _ _ ?_
      refine R32 _ _ ?_
      obtain rfl:=Option.some.inj h86
      obtain rfl:=Option.some.inj h71
      obtain rfl:=Option.some.inj h
      exact ⟨[],_,fm⟩
     refine p9 hn ?_
     refine A48 _ _ ?_
     refine A47 _ _ ?_
     refine q8 hn ?_
     refine Or.inl (And.intro (aE3 hx91 hl83) ?_)
     refine A44 _ _ ?_
     exact jn ⟨(rest87,k84+1),hd2,h86⟩ [] (by show rest87.length < rest87.length+1; omega)
   rintro ⟨⟨⟩,rfl⟩
   refine A39 _ _ ?_
   refine A38 _ _ ?_
   refine q8 hn ?_
   refine Or.inl (And.intro (aE3 hx76 hl68) ?_)
   refine A35 _ _ ?_
   exact jn ⟨(rest72,k69+1),hd2,h71⟩ [] (by show rest72.length < rest72.length+1; omega)
 rintro ⟨⟨⟩,rfl⟩
 refine A32 _ _ ?_
 refine j5.seqQ fun _ A64 _ R64=>?_
 refine j6 hn ?_
 refine D5 (fun hl135=>?_)
 obtain ⟨o137,h138,h⟩:=j4 h
 refine jk (ι:={ s // o137=D9.next s }) hn (fun s=>[]) (fun s=>[]) [] [] (fun _ A65 _ R65=>?_) ?_
 ·refine j5.blkQ fun _ _ E66 _ R66=>?_
  refine lq (ι:={ q:((List Ob)×Nat) // q.1=a0.heap.drop q.2∧U7 N a0 q.1 q.2=some o137 }) hn (fun q=>[(233,.int (q.1.2:Int))]) (fun q=>[]) (fun q=>q.1.1.length) [(1,_),(231,_),(232,_)] [(1,_)] ⟨(a0.heap,0),rfl,h138⟩ [] ?_
  rintro ⟨⟨rest_,k136⟩,hd140,h138⟩ _ A67 X67 R67
  replace hd140:rest_=a0.heap.drop k136:=hd140
  rcases rest_ with _|⟨x142,rest139⟩
  ·have hlt144:=N9 hd140
   replace h138:=(U7.eq_1 _ _ _).symm.trans h138
   refine j6 hn ?_
   refine j5.seqQ fun _ _ X68 _=>?_
   refine p8 hn ?_
   refine d9 hlt144 ?_
   refine F6 hn ?_
   refine X68 _ _ _ ?_
   refine X67 _ _ _ ?_
   refine E66 _ _ ?_
   refine A65 _ _ ?_
   exact jn ⟨_,sj h138⟩ []
  ·obtain ⟨hx143,hd2,hlt144⟩:=H9 hd140
   replace h138:=(U7.eq_2 _ _ _ _ _).symm.trans h138
   refine j6 hn ?_
   refine j5.seqQ fun _ A69 _ _=>?_
   refine p8 hn ?_
   refine j3 hlt144 ?_
   refine p9 hn ?_
   refine A69 _ _ ?_
   refine j5.seqQ fun _ A70 _ R70=>?_
   refine j5.blkQ fun _ A71 _ _ R71=>?_
   refine j6 hn ?_
   refine aJ1 hx143 ?_
   refine j5.seqQ fun _ A72 _ R72=>?_
   refine j5.seqQ fun _ A73 _ _=>?_
   obtain ⟨o147,h146,h138⟩:=j4 h138
   refine jk (ι:={ s // o147=s }) hn (fun s=>[(267,.bool s.1)]) (fun s=>[]) [(1,_),(19,_),(231,_),(232,_),(233,_)] [(1,_),(19,_)] (fun _ A74 _ _=>?_) ?_
   ·refine kp [(1,_),(19,_),(231,_),(232,_),(233,_)] [(1,_),(19,_)] ?_
    refine P5 hn (by kernel_rfl) ?_
    refine l5 h146 (fun hb148 h146=>?_) (fun hb148 h146=>?_)
    ·refine j3 hb148 ?_
     refine j3 hb148 ?_
     refine j3 hb148 ?_
     refine j3 hb148 ?_
     refine j3 hb148 ?_
     refine A74 _ _ ?_
     exact jn ⟨_,sj h146⟩ []
    refine d9 hb148 ?_
    refine d9 hb148 ?_
    refine d9 hb148 ?_
    refine l5 h146 (fun hb149 h146=>?_) (fun hb149 h146=>?_)
    ·refine j3 hb149 ?_
     refine j3 hb149 ?_
     refine d9 hb148 ?_
     refine j3 hb149 ?_
     refine d9 hb148 ?_
     refine l5 h146 (fun hb150 h146=>?_) (fun hb150 h146=>?_)
     ·refine j3 hb150 ?_
      refine j3 hb150 ?_
      refine j3 hb150 ?_
      refine j3 hb150 ?_
      refine j3 hb150 ?_
      refine j3 hb150 ?_
      refine A74 _ _ ?_
      exact jn ⟨_,sj h146⟩ []
     refine d9 hb150 ?_
     refine d9 hb150 ?_
     refine d9 hb150 ?_
     refine d9 hb150 ?_
     refine D5 (fun _=>?_)
     refine d9 hb150 ?_
     refine d9 hb150 ?_
     refine l5 h146 (fun hb152 h146=>?_) (fun hb152 h146=>?_)
     ·refine j3 hb152 ?_
      refine j3 hb152 ?_
      refine j3 hb152 ?_
      refine j3 hb152 ?_
      refine j3 hb152 ?_
      refine j3 hb152 ?_
      refine j3 hb152 ?_
      refine j3 hb152 ?_
      refine A74 _ _ ?_
      exact jn ⟨_,sj h146⟩ []
     refine d9 hb152 ?_
     refine d9 hb152 ?_
     refine D5 (fun _=>?_)
     refine d9 hb152 ?_
     refine d9 hb152 ?_
     refine d9 hb152 ?_
     refine d9 hb152 ?_
     obtain ⟨r154,hr155,h146⟩:=j4 h146
     show l8 Try.prog _ _ _ _
     refine cA (aG8 N a0 x142.cls r154 hr155) ?_
     refine d9 hb152 ?_
     refine d9 hb152 ?_
     refine A74 _ _ ?_
     exact jn ⟨_,sj h146⟩ []
    refine d9 hb149 ?_
    refine d9 hb149 ?_
    refine d9 hb148 ?_
    refine d9 hb149 ?_
    refine d9 hb148 ?_
    refine D5 (fun _=>?_)
    refine l5 h146 (fun hb157 h146=>?_) (fun hb157 h146=>?_)
    ·refine j3 hb157 ?_
     refine j3 hb157 ?_
     refine j3 hb157 ?_
     refine j3 hb157 ?_
     refine j3 hb157 ?_
     refine j3 hb157 ?_
     refine j3 hb157 ?_
     refine j3 hb157 ?_
     refine A74 _ _ ?_
     exact jn ⟨_,sj h146⟩ []
    refine d9 hb157 ?_
    refine d9 hb157 ?_
    refine D5 (fun _=>?_)
    refine d9 hb157 ?_
    refine d9 hb157 ?_
    refine d9 hb157 ?_
    refine d9 hb157 ?_
    obtain ⟨r159,hr160,h146⟩:=j4 h146
    show l8 Try.prog _ _ _ _
    refine cA (aG8 N a0 x142.cls r159 hr160) ?_
    refine d9 hb157 ?_
    refine d9 hb157 ?_
    refine A74 _ _ ?_
    exact jn ⟨_,sj h146⟩ []
   rintro ⟨v145,hv_⟩
   replace hv_:=hv_.symm
   subst hv_
   refine A73 _ _ ?_
   refine p8 hn ?_
   refine l5 h138 (fun hb161 h138=>?_) (fun hb161 h138=>?_)
   ·refine j6 hn ?_
    refine got hn ?_
    refine R72 _ _ ?_
    refine R71 _ _ ?_
    refine R70 _ _ ?_
    refine R67 _ _ ?_
    refine R66 _ _ ?_
    refine R65 _ _ ?_
    refine R64 _ _ ?_
    obtain rfl:=Option.some.inj h138
    obtain rfl:=Option.some.inj h
    exact ⟨[],_,fm⟩
   refine p9 hn ?_
   refine A72 _ _ ?_
   refine j6 hn ?_
   refine D5 (fun hl162=>?_)
   obtain ⟨o164,h165,h138⟩:=j4 h138
   refine jk (ι:={ s // o164=D9.next s }) hn (fun s=>[]) (fun s=>[]) [(1,_),(231,_),(232,_),(233,_)] [(1,_)] (fun _ A75 _ R75=>?_) ?_
   ·refine j5.blkQ fun _ _ E76 _ R76=>?_
    refine lq (ι:={ q:((List V)×Nat) // q.1=x142.slots.drop q.2∧U8 N a0 q.1 q.2=some o164 }) hn (fun q=>[(271,.int (q.1.2:Int))]) (fun q=>[]) (fun q=>q.1.1.length) [(1,_),(231,_),(232,_),(233,_),(269,_),(270,_)] [(1,_)] ⟨(x142.slots,0),rfl,h165⟩ [] ?_
    rintro ⟨⟨rest_,k163⟩,hd167,h165⟩ _ A77 X77 R77
    replace hd167:rest_=x142.slots.drop k163:=hd167
    rcases rest_ with _|⟨x169,rest166⟩
    ·have hlt171:=N9 hd167
     replace h165:=(U8.eq_1 _ _ _).symm.trans h165
     refine j6 hn ?_
     refine j5.seqQ fun _ _ X78 _=>?_
     refine p8 hn ?_
     refine d9 hlt171 ?_
     refine F6 hn ?_
     refine X78 _ _ _ ?_
     refine X77 _ _ _ ?_
     refine E76 _ _ ?_
     refine A75 _ _ ?_
     exact jn ⟨_,sj h165⟩ []
    ·obtain ⟨hx170,hd2,hlt171⟩:=H9 hd167
     replace h165:=(U8.eq_2 _ _ _ _ _).symm.trans h165
     refine j6 hn ?_
     refine j5.seqQ fun _ A79 _ _=>?_
     refine p8 hn ?_
     refine j3 hlt171 ?_
     refine p9 hn ?_
     refine A79 _ _ ?_
     refine j5.seqQ fun _ A80 _ R80=>?_
     refine j5.blkQ fun _ A81 _ _ R81=>?_
     refine j6 hn ?_
     refine aJ1 hx170 ?_
     refine j6 hn ?_
     refine D5 (fun _=>?_)
     obtain ⟨r173,hr174,h165⟩:=j4 h165
     show l8 Try.prog _ _ _ _
     refine cA (bW9 N x169 (a0.heap.length:Int) r173 hr174) ?_
     refine kp [(1,_),(22,_),(231,_),(232,_),(233,_),(269,_),(270,_),(271,_)] [(1,_)] ?_
     refine j6 hn ?_
     refine p8 hn ?_
     refine l5 h165 (fun hb175 h165=>?_) (fun hb175 h165=>?_)
     ·refine j6 hn ?_
      refine got hn ?_
      refine R81 _ _ ?_
      refine R80 _ _ ?_
      refine R77 _ _ ?_
      refine R76 _ _ ?_
      refine R75 _ _ ?_
      refine R71 _ _ ?_
      refine R70 _ _ ?_
      refine R67 _ _ ?_
      refine R66 _ _ ?_
      refine R65 _ _ ?_
      refine R64 _ _ ?_
      obtain rfl:=Option.some.inj h165
      obtain rfl:=Option.some.inj h138
      obtain rfl:=Option.some.inj h
      exact ⟨[],_,fm⟩
     refine p9 hn ?_
     refine A81 _ _ ?_
     refine A80 _ _ ?_
     refine q8 hn ?_
     refine Or.inl (And.intro (aE3 hx170 hl162) ?_)
     refine A77 _ _ ?_
     exact jn ⟨(rest166,k163+1),hd2,h165⟩ [] (by show rest166.length < rest166.length+1; omega)
   rintro ⟨⟨⟩,rfl⟩
   refine A71 _ _ ?_
   refine A70 _ _ ?_
   refine q8 hn ?_
   refine Or.inl (And.intro (aE3 hx143 hl135) ?_)
   refine A67 _ _ ?_
   exact jn ⟨(rest139,k136+1),hd2,h138⟩ [] (by show rest139.length < rest139.length+1; omega)
 rintro ⟨⟨⟩,rfl⟩
 refine A64 _ _ ?_
 refine j6 hn ?_
 refine got hn ?_
 obtain rfl:=Option.some.inj h
 exact ⟨[],_,fm⟩
end Go.Proofs.Ytahmeibkdhbngaa
