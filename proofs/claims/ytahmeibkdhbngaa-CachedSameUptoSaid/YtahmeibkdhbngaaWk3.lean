/- Walks after the mirrors. Printed by mir.py. -/
import Derived.Test.YtahmeibkdhbngaaWk2
namespace Go.Proofs.Ytahmeibkdhbngaa
open Go.RowKit
set_option linter.unusedVariables false
/- slices.IndexFunc[[]api.Tally,api.Tally] -/
set_option maxRecDepth 100000 in
set_option maxHeartbeats 8000000 in
theorem aM1 (N:Nat) (a0:(List Tl)) (g1:Tl→Option Bool) {K1:Nat} {c1_0:List AV} (hg1:∀x0_ y_,g1 x0_=some y_→Spec Try.prog K1 [] [.agg (eTl x0_),.fp c1_0] (.bool y_) [] []) (r:Int) (h:N7 N a0 g1=some r):Spec Try.prog 83 [] [.sl 4 (List.map eTl a0),.fn K1 [.fp c1_0]] (.int r) [] []:=by
 refine Spec.of C9 Try.func83 rfl Try.ntmps83 (by kernel_rfl) rfl rfl rfl fun Γ hn=>?_
 unfold N7 at h
 refine j6 hn ?_
 refine j5.seqQ fun _ A0 _ R0=>?_
 refine j6 hn ?_
 refine z8 (fun hl1=>?_)
 obtain ⟨o3,h4,h⟩:=j4 h
 refine jk (ι:={ s // o3=D5.next s }) hn (fun s=>[]) (fun s=>[]) [] [] (fun _ A1 _ R1=>?_) ?_
 ·refine j5.blkQ fun _ _ E2 _ R2=>?_
  refine lq (ι:={ q:((List Tl)×Nat) // q.1=a0.drop q.2∧F6 N g1 q.1 q.2=some o3 }) hn (fun q=>[(8,.int (q.1.2:Int))]) (fun q=>[]) (fun q=>q.1.1.length) [(0,_),(1,_),(7,_)] [] ⟨(a0,0),rfl,h4⟩ [] ?_
  rintro ⟨⟨rest_,k2⟩,hd6,h4⟩ _ A3 X3 R3
  replace hd6:rest_=a0.drop k2:=hd6
  rcases rest_ with _|⟨x8,rest5⟩
  ·have hlt10:=J5 hd6
   replace h4:=(F6.eq_1 _ _ _).symm.trans h4
   refine j6 hn ?_
   refine j5.seqQ fun _ _ X4 _=>?_
   refine l8 hn ?_
   refine d9 hlt10 ?_
   refine F7 hn ?_
   refine X4 _ _ _ ?_
   refine X3 _ _ _ ?_
   refine E2 _ _ ?_
   refine A1 _ _ ?_
   exact jn ⟨_,sj h4⟩ []
  ·obtain ⟨hx9,hd2,hlt10⟩:=F9 hd6
   replace h4:=(F6.eq_2 _ _ _ _ _).symm.trans h4
   refine j6 hn ?_
   refine j5.seqQ fun _ A5 _ _=>?_
   refine l8 hn ?_
   refine j3 hlt10 ?_
   refine p9 hn ?_
   refine A5 _ _ ?_
   refine j5.seqQ fun _ A6 _ R6=>?_
   refine j5.blkQ fun _ A7 _ _ R7=>?_
   refine j6 hn ?_
   refine j6 hn ?_
   refine aC1 hx9 ?_
   obtain ⟨r11,hr12,h4⟩:=j4 h4
   show l7 Try.prog _ _ _ _
   refine cA (hg1 _ _ hr12) ?_
   refine l8 hn ?_
   refine l5 h4 (fun hb13 h4=>?_) (fun hb13 h4=>?_)
   ·refine j6 hn ?_
    refine got hn ?_
    refine R7 _ _ ?_
    refine R6 _ _ ?_
    refine R3 _ _ ?_
    refine R2 _ _ ?_
    refine R1 _ _ ?_
    refine R0 _ _ ?_
    obtain rfl:=Option.some.inj h4
    obtain rfl:=Option.some.inj h
    exact ⟨[],_,fm⟩
   refine p9 hn ?_
   refine A7 _ _ ?_
   refine A6 _ _ ?_
   refine q8 hn ?_
   refine Or.inl (And.intro (Z8 hx9 hl1) ?_)
   refine A3 _ _ ?_
   exact jn ⟨(rest5,k2+1),hd2,h4⟩ [] (by show rest5.length < rest5.length+1; omega)
 rintro ⟨⟨⟩,rfl⟩
 refine A0 _ _ ?_
 refine j6 hn ?_
 refine got hn ?_
 obtain rfl:=Option.some.inj h
 exact ⟨[],_,fm⟩

/- tally.Add$1 -/
set_option maxRecDepth 100000 in
set_option maxHeartbeats 8000000 in
theorem b87 (N:Nat) (a0:Tl) (b0:St) (r:Bool) (h:aP0 N a0 b0=some r):Spec Try.prog 84 [] [.agg (eTl a0),.fp (Z7 b0)] (.bool r) [] []:=by
 refine Spec.of C9 Try.func84 rfl Try.ntmps84 (by kernel_rfl) rfl rfl rfl fun Γ hn=>?_
 unfold aP0 at h
 refine j6 hn ?_
 refine j6 hn ?_
 refine got hn ?_
 obtain rfl:=Option.some.inj h
 exact ⟨[],_,fm⟩

/- tally.Add$2 -/
set_option maxRecDepth 100000 in
set_option maxHeartbeats 8000000 in
theorem b72 (N:Nat) (a0:Ln) (b0:Int) (r:Bool) (h:aO4 N a0 b0=some r):Spec Try.prog 85 [] [.agg (N8 a0),.fp [.int b0]] (.bool r) [] []:=by
 refine Spec.of C9 Try.func85 rfl Try.ntmps85 (by kernel_rfl) rfl rfl rfl fun Γ hn=>?_
 unfold aO4 at h
 refine j6 hn ?_
 refine j6 hn ?_
 refine got hn ?_
 obtain rfl:=Option.some.inj h
 exact ⟨[],_,fm⟩

/- tally.Add -/
theorem cX6 (N:Nat) {l:List Ln} (h:Fit l.length 16):O6 N l=some l:=by
  unfold O6
  rw [show Nat.ble (l.length*16) 140737488355328=true from Nat.ble_eq_true_of_le h]
  rfl
def aI5 (t:Tl):List AV:=[.int t.site.cls,.str t.site.name,.int t.site.pos]
def nTl (t:Tl):List AV×List (List AV):=(aI5 t,t.classes.map N8)
set_option maxRecDepth 100000 in
theorem cE1 (N:Nat) (l:List Tl) (hf:Fit l.length 56) (hf2:∀t∈l,Fit t.classes.length 16):Spec Try.prog 46 [] [.sl 4 (l.map eTl)] (.nst 0) [(0,.nest 4 113 2 91 (l.map nTl))] [0]:=by
  refine Spec.of C9 Try.func46 rfl Try.ntmps46 (by kernel_rfl) rfl rfl rfl fun Γ hn=>?_
  (repeat (first|refine j6 hn ?_|refine q8 hn ?_|refine O3 hn ?_|refine l8 hn ?_|refine F7 hn ?_|refine p9 hn ?_|refine got hn ?_))
  refine z8 (fun hlen=>?_)
  (repeat (first|refine j6 hn ?_|refine q8 hn ?_|refine O3 hn ?_|refine l8 hn ?_|refine F7 hn ?_|refine p9 hn ?_|refine got hn ?_))
  refine j5.nilrow 3 3 4 113 rfl rfl rfl ?_
  refine j5.gh (Gh.pins0 100 2 91 rfl rfl) (fun _=>?_)
  refine j5.loop (ι:={p:Nat×List (Hd×List AV×List (List AV)) // p.1≤l.length∧p.2.map (·.2)=(l.take p.1).map nTl}) (fun p=>[(6,.sl 4 (l.map eTl)),(7,.int l.length),(8,.int p.1.1),(3,.own 3)])
    (fun p=>[(3,.row 4 (C8 p.1.2) 113),(100,.pins 2 (P7 p.1.2) 91)]) (fun p=>l.length - p.1.1) ⟨(0,[]),by omega,rfl⟩ [] ?_ ?_ ?_
  · exact ⟨⟨rfl,rfl,rfl,rfl,trivial⟩,⟨rfl,rfl,trivial⟩,rfl,rfl⟩
  · intro k; rw [hn]; rfl
  rintro ⟨⟨k,z⟩,hk,hz⟩
  have hk:k≤l.length:=hk
  have hz:z.map (·.2)=(l.take k).map nTl:=hz
  (repeat (first|refine j6 hn ?_|refine q8 hn ?_|refine O3 hn ?_|refine l8 hn ?_|refine F7 hn ?_|refine p9 hn ?_|refine got hn ?_))
  refine aK4 (fun hlt=>?_) (fun hge=>?_)
  · have hlt:k < l.length:=by have:(k:Int) < (l.length:Int):=hlt; omega
    (repeat (first|refine j6 hn ?_|refine q8 hn ?_|refine O3 hn ?_|refine l8 hn ?_|refine F7 hn ?_|refine p9 hn ?_|refine got hn ?_))
    refine And.intro (by omega) (And.intro (by simpa using hlt) ?_)
    intro cs hcs hrng
    obtain ⟨x,hx,rfl⟩:=dH1 hcs
    have hx:l[k]?=some x:=hx
    (repeat (first|refine j6 hn ?_|refine q8 hn ?_|refine O3 hn ?_|refine l8 hn ?_|refine F7 hn ?_|refine p9 hn ?_|refine got hn ?_))
    show l7 Try.prog _ _ _ _; refine l7.as ((aJ4 N x.classes x.classes (cX6 N (hf2 x (List.mem_of_getElem? hx)))).sw 0 14) (by first|exact aG1 rfl|((repeat (refine And.intro rfl ?_)); exact trivial)) (by (repeat (refine And.intro rfl ?_)); exact trivial) rfl ?_
    refine j5.gh (Gh.pinB 5 3 14 100 rfl rfl rfl rfl rfl rfl rfl) (fun h=>?_)
    (repeat (first|refine j6 hn ?_|refine q8 hn ?_|refine O3 hn ?_|refine l8 hn ?_|refine F7 hn ?_|refine p9 hn ?_|refine got hn ?_))
    refine Exists.intro [[.int x.site.cls,.str x.site.name,.int x.site.pos,.con h.v]] (And.intro (by repeat (first|exact trivial|exact rfl|(refine And.intro ?_ ?_))) ?_)
    have hzl:(C8 z).length=k:=by
      have:=bJ2 hz
      rw [List.length_take] at this
      simp only [C8,List.length_map]
      omega
    refine And.intro ?_ (Exists.intro (C8 (z++[(h,nTl x)])) (And.intro (by rw [bH0]; exact y7 _) ?_))
    · show ((C8 z).length+1)*56≤_
      rw [hzl]
      exact Nat.le_trans (Nat.mul_le_mul_right 56 hlt) hf
    (repeat (first|refine j6 hn ?_|refine q8 hn ?_|refine O3 hn ?_|refine l8 hn ?_|refine F7 hn ?_|refine p9 hn ?_|refine got hn ?_))
    refine Or.inl (And.intro (bZ6 hlt hlen) ?_)
    have hz2:(z++[(h,nTl x)]).map (·.2)=(l.take (k+1)).map nTl:=by
      rw [cC3 hx,List.map_append,List.map_append,show z.map (·.2)=(l.take k).map nTl from hz]
      rfl
    refine ⟨⟨(k+1,z++[(h,nTl x)]),hlt,hz2⟩,[(3,19)],by show l.length - (k+1) < l.length - k; omega,⟨⟨rfl,rfl,rfl,rfl,trivial⟩,⟨rfl,?_,trivial⟩,rfl,rfl⟩⟩
    · exact congrArg (fun q=>some (Obj.pins 2 q 91)) (bO1 z (h,nTl x)).symm
  · have e:k=l.length:=by have:¬(k:Int) < (l.length:Int):=hge; omega
    subst e
    have hz:z.map (·.2)=l.map nTl:=by
      have:z.map (·.2)=(l.take l.length).map nTl:=hz
      rwa [List.take_length] at this
    refine F7 hn ?_
    show j5 Try.prog Γ _ _ _ _; refine j5.gh (Gh.close 3 3 100 101 z rfl rfl rfl rfl rfl hz rfl rfl rfl rfl rfl) ?_
    intro _
    (repeat (first|refine j6 hn ?_|refine q8 hn ?_|refine O3 hn ?_|refine l8 hn ?_|refine F7 hn ?_|refine p9 hn ?_|refine got hn ?_))
    exact ⟨[(0,101)],_,rfl,rfl,⟨rfl,trivial⟩,rfl,rfl,rfl,rfl,rfl⟩
theorem cG4 (l:List Tl):aE5 2 (l.map nTl)=l.map eTl:=by simp [aE5,nTl,aI5,eTl]
theorem cW6 (N:Nat) (s:St):∀(l:List Tl) (k:Nat),F6 N (fun x=>aP0 N x s) l k=some (match l.findIdx? (fun t=>decide (t.site=s)) with|some i=>.ret ((k+i:Nat):Int)|none=>.next ())
  |[],k=>rfl
  |x::l,k=>by
    rw [F6,aU8,cW6 N s l (k+1)]
    unfold aP0
    rw [show aF5 (Z7 x.site) (Z7 s)=decide (x.site=s) from c62 x.site s]
    by_cases e:x.site=s
    · simp [e]
    · cases l.findIdx? (fun t=>decide (t.site=s))<;>simp [e]; omega
theorem ixT (N:Nat) (s:St) (l:List Tl):N7 N l (fun x=>aP0 N x s)=some (ixf (fun t=>decide (t.site=s)) l):=by
  unfold N7 ixf
  rw [cW6]
  cases l.findIdx? (fun t=>decide (t.site=s))<;>simp
theorem cX3 (N:Nat) (c:Int):∀(l:List Ln) (k:Nat),D8 N (fun x=>aO4 N x c) l k=some (match l.findIdx? (fun t=>decide (t.cls=c)) with|some i=>.ret ((k+i:Nat):Int)|none=>.next ())
  |[],k=>rfl
  |x::l,k=>by
    rw [D8,aU8,cX3 N c l (k+1)]
    unfold aO4
    by_cases e:x.cls=c
    · simp [e]
    · cases l.findIdx? (fun t=>decide (t.cls=c))<;>simp [e]; omega
theorem ixL (N:Nat) (c:Int) (l:List Ln):I5 N l (fun x=>aO4 N x c)=some (ixf (fun t=>decide (t.cls=c)) l):=by
  unfold I5 ixf
  rw [cX3]
  cases l.findIdx? (fun t=>decide (t.cls=c))<;>simp
set_option maxRecDepth 100000 in
theorem cH4 (N:Nat) (l:List Tl) (s:St) (c:Int) (r:List Tl) (h:a14 N l s c=some r):Spec Try.prog 49 [] [.sl 4 (l.map eTl),.agg (Z7 s),.int c] (.own 0) [(0,.row 4 (r.map eTl) 113)] [0]:=by
  unfold a14 at h
  obtain ⟨hg,h⟩:=D6 h
  obtain rfl:=Option.some.inj h
  rw [Bool.and_eq_true,List.all_eq_true] at hg
  have hf:Fit (l.length+1) 56:=Nat.le_of_ble_eq_true hg.1
  have hf2:∀t∈l,Fit (t.classes.length+1) 16:=fun t ht=>Nat.le_of_ble_eq_true (hg.2 t ht)
  clear h hg
  refine Spec.of C9 Try.func49 rfl Try.ntmps49 (by kernel_rfl) rfl rfl rfl fun Γ hn=>?_
  refine j6 hn ?_
  show j5 Try.prog Γ _ _ _ _; refine j5.gh (Gh.fzBox 4 4 rfl rfl rfl) ?_
  intro _
  show j5 Try.prog Γ _ _ _ _; refine j5.gh (Gh.fzBox 5 5 rfl rfl rfl) ?_
  intro _
  (repeat (first|refine j6 hn ?_|refine q8 hn ?_|refine O3 hn ?_|refine l8 hn ?_|refine F7 hn ?_|refine p9 hn ?_|refine got hn ?_))
  show l7 Try.prog _ _ _ _; refine l7.as ((cE1 N l (Nat.le_trans (Nat.mul_le_mul_right _ (Nat.le_succ _)) hf) (fun t ht=>Nat.le_trans (Nat.mul_le_mul_right _ (Nat.le_succ _)) (hf2 t ht))).sw 0 11) (by first|exact aG1 rfl|((repeat (refine And.intro rfl ?_)); exact trivial)) (by (repeat (refine And.intro rfl ?_)); exact trivial) rfl ?_
  (repeat (first|refine j6 hn ?_|refine q8 hn ?_|refine O3 hn ?_|refine l8 hn ?_|refine F7 hn ?_|refine p9 hn ?_|refine got hn ?_))
  show l7 Try.prog _ _ _ _
  refine l7.lend (aM1 N l (fun x=>aP0 N x s) (fun x y hy=>b87 N x s y hy) _ (ixT N s l)) ?_ rfl ?_
  · show aI7 [.sl 4 (aE5 2 (l.map nTl)),.fn 84 [.fp (Z7 s)]] _
    rw [cG4]
    exact aG1 rfl
  show j5 Try.prog Γ _ _ _ _; refine j5.gh (Gh.open 7 11 102 103 rfl rfl rfl rfl rfl rfl (fun _=>rfl)) ?_
  rintro ⟨z,hz⟩
  refine j5.cut (ι:={ q:Nat×Tl×Hd×List (Hd×List AV×List (List AV)) // q.2.2.2[q.1]?=some (q.2.2.1,nTl q.2.1)∧q.2.2.2.map (·.2)=(ixd (fun t=>decide (t.site=s)) ⟨s,[]⟩ l).1.map nTl∧(ixd (fun t=>decide (t.site=s)) ⟨s,[]⟩ l).1[q.1]?=some q.2.1∧(ixd (fun t=>decide (t.site=s)) ⟨s,[]⟩ l).2=q.1∧Fit (q.2.1.classes.length+1) 16 })
    (fun q=>[(7,.own 102),(8,.int q.1.1),(5,.fp [.int c])]) (fun q=>[(102,.row 4 (C8 q.1.2.2.2) 113),(103,.pins 2 ((P7 q.1.2.2.2).eraseIdx q.1.1) 91),(104,.row 2 (q.1.2.1.classes.map N8) 91),(105,.eqv 104 q.1.2.2.1.v)]) ?_ ?_ ?_
  · (repeat (first|refine j6 hn ?_|refine q8 hn ?_|refine O3 hn ?_|refine l8 hn ?_|refine F7 hn ?_|refine p9 hn ?_|refine got hn ?_))
    rcases bW8 (fun t:Tl=>decide (t.site=s)) l with ⟨k,x,e1,e2,e3,e4⟩|⟨e1,e2⟩
    · refine aK4 (fun hlt=>?_) (fun hge=>?_)
      · rw [e1] at hlt; omega
      · obtain ⟨h,hz1⟩:=cU0 hz e2
        have hp:(P7 z).Perm ((h,x.classes.map N8)::(P7 z).eraseIdx k):=by
          have hk:(P7 z)[k]?=some (h,x.classes.map N8):=by simp [P7,hz1,nTl]
          obtain ⟨hl,hv⟩:=List.getElem?_eq_some_iff.1 hk
          rw [←hv]
          exact (List.getElem_cons_eraseIdx_perm' hl).symm
        show j5 Try.prog Γ _ _ _ _; refine j5.gh (Gh.unpin 103 104 105 rfl hp rfl rfl rfl rfl rfl) ?_
        intro _
        refine p9 hn ?_
        have ex:ixd (fun t:Tl=>decide (t.site=s)) ⟨s,[]⟩ l=(l,k):=by unfold ixd; rw [e4]
        refine ⟨⟨(k,x,h,z),hz1,by rw [ex]; exact hz,by rw [ex]; exact e2,by rw [ex],hf2 x (List.mem_of_getElem? e2)⟩,[],⟨⟨rfl,congrArg AV.int e1,rfl,trivial⟩,⟨rfl,rfl,rfl,rfl,trivial⟩,rfl,rfl⟩⟩
    · refine aK4 (fun hlt=>?_) (fun hge=>?_)
      · (repeat (first|refine j6 hn ?_|refine q8 hn ?_|refine O3 hn ?_|refine l8 hn ?_|refine F7 hn ?_|refine p9 hn ?_|refine got hn ?_))
        rintro _ rfl hlen
        refine j5.ops (goo hn 6 ?_)
        refine Exists.intro [[.int s.cls,.str s.name,.int s.pos,.nilsl]] (And.intro (by repeat (first|exact trivial|exact rfl|(refine And.intro ?_ ?_))) ?_)
        refine And.intro ?_ (Exists.intro (C8 z++[[AV.int s.cls,.str s.name,.int s.pos,.nilsl]]) (And.intro (y7 _) ?_))
        · show ((C8 z).length+1)*56≤_
          rw [show (C8 z).length=l.length by simp only [C8,List.length_map]; exact bJ2 hz]
          exact hf
        have hat:(C8 z++[[AV.int s.cls,.str s.name,.int s.pos,.nilsl]])[l.length]?=some [AV.int s.cls,.str s.name,.int s.pos,.nilsl]:=by
          rw [List.getElem?_append_right (by simp [C8,bJ2 hz])]
          simp [C8,bJ2 hz]
        show OOk Try.prog Γ _ _ _ _ _
        refine OOk.gh (Gh.unnil (r:=23) (i:=l.length) (off:=3) (j:=104) (j':=105) (isz:=2) (ie:=91) rfl hat rfl rfl rfl rfl rfl rfl) ?_
        intro _
        refine OOk.done ?_
        have ex:ixd (fun t:Tl=>decide (t.site=s)) ⟨s,[]⟩ l=(l++[⟨s,[]⟩],l.length):=by unfold ixd; rw [e2]
        have hlz:=bJ2 hz
        refine ⟨⟨(l.length,⟨s,[]⟩,⟨none,0,0⟩,z++[(⟨none,0,0⟩,nTl ⟨s,[]⟩)]),?_,?_,?_,?_,?_⟩,[(102,23)],⟨⟨rfl,?_,rfl,trivial⟩,⟨?_,?_,rfl,rfl,trivial⟩,rfl,rfl⟩⟩
        · show (z++[_])[l.length]?=_
          rw [List.getElem?_append_right (by omega)]
          simp [hlz]
        · rw [ex]
          show List.map (fun p:Hd×List AV×List (List AV)=>p.2) (z++[_])=List.map nTl (l++[_])
          rw [List.map_append,List.map_append,hz]
          rfl
        · rw [ex]
          show (l++[_])[l.length]?=_
          rw [List.getElem?_append_right (Nat.le_refl _)]
          simp
        · rw [ex]
        · show (0+1)*16≤_
          decide
        · exact congrArg AV.int (by simp [C8,hlz])
        · refine congrArg (fun q=>some (Obj.row 4 q 113)) ?_
          show (C8 z++[_]).set l.length _=C8 (z++[_])
          rw [bH0,List.set_append_right _ _ (by simp [C8,hlz])]
          simp [C8,hlz,nTl,aI5]
        · refine congrArg (fun q=>some (Obj.pins 2 q 91)) ?_
          show P7 z=(P7 (z++[_])).eraseIdx l.length
          rw [bO1,List.eraseIdx_append_of_length_le (by simp [P7,hlz])]
          simp [P7,hlz]
      · rw [e1] at hge; omega
  · intro k; rw [hn]; rfl
  rintro ⟨⟨k,x,h,z⟩,hq1,hq2,hq3,hq4,hq5⟩
  have hq1:z[k]?=some (h,nTl x):=hq1
  have hkz:k < (C8 z).length:=by
    have:=(List.getElem?_eq_some_iff.1 hq1).1
    simpa [C8] using this
  have hat:(C8 z)[k]?=some (aI5 x++[.con h.v]):=by simp [C8,hq1,nTl]
  (repeat (first|refine j6 hn ?_|refine q8 hn ?_|refine O3 hn ?_|refine l8 hn ?_|refine F7 hn ?_|refine p9 hn ?_|refine got hn ?_))
  refine And.intro (by omega) (And.intro (by simpa using hkz) ?_)
  refine And.intro (by simpa using hkz) (fun cs hcs=>?_)
  have hcs:(C8 z)[k]?=some cs:=hcs
  obtain rfl:cs=aI5 x++[.con h.v]:=Option.some.inj (hcs.symm.trans hat)
  refine And.intro rfl ?_
  show l7 Try.prog _ _ _ _
  refine l7.lend (aA9 N x.classes (fun x=>aO4 N x c) (fun x y hy=>b72 N x c y hy) _ (ixL N c x.classes)) (aG1 rfl) rfl ?_
  refine j5.cut (ι:={ q:Nat×Ln×Hd×List Ln // q.2.2.2=(ixd (fun y=>decide (y.cls=c)) ⟨c,0⟩ x.classes).1∧(ixd (fun y=>decide (y.cls=c)) ⟨c,0⟩ x.classes).2=q.1∧q.2.2.2[q.1]?=some q.2.1 })
    (fun q=>[(7,.own 102),(8,.int k),(9,.int q.1.1)]) (fun q=>[(102,.row 4 ((C8 z).set k (aI5 x++[.con q.1.2.2.1.v])) 113),(103,.pins 2 ((P7 z).eraseIdx k) 91),(104,.row 2 (q.1.2.2.2.map N8) 91),(105,.eqv 104 q.1.2.2.1.v)]) ?_ ?_ ?_
  · (repeat (first|refine j6 hn ?_|refine q8 hn ?_|refine O3 hn ?_|refine l8 hn ?_|refine F7 hn ?_|refine p9 hn ?_|refine got hn ?_))
    rcases bW8 (fun y:Ln=>decide (y.cls=c)) x.classes with ⟨j,y,e1,e2,e3,e4⟩|⟨e1,e2⟩
    · refine aK4 (fun hlt=>?_) (fun hge=>?_)
      · rw [e1] at hlt; omega
      · refine p9 hn ?_
        have ex:ixd (fun y:Ln=>decide (y.cls=c)) ⟨c,0⟩ x.classes=(x.classes,j):=by unfold ixd; rw [e4]
        refine ⟨⟨(j,y,h,x.classes),by rw [ex],by rw [ex],e2⟩,[],⟨⟨rfl,rfl,congrArg AV.int e1,trivial⟩,⟨?_,rfl,rfl,rfl,trivial⟩,rfl,rfl⟩⟩
        refine congrArg (fun q=>some (Obj.row 4 q 113)) ?_
        show C8 z=(C8 z).set k _
        exact (bT5 hat).symm
    · refine aK4 (fun hlt=>?_) (fun hge=>?_)
      · (repeat (first|refine j6 hn ?_|refine q8 hn ?_|refine O3 hn ?_|refine l8 hn ?_|refine F7 hn ?_|refine p9 hn ?_|refine got hn ?_))
        refine And.intro (by omega) (And.intro (by simpa using hkz) ?_)
        refine And.intro (by simpa using hkz) (fun cs hcs=>?_)
        have hcs:(C8 z)[k]?=some cs:=hcs
        obtain rfl:cs=aI5 x++[.con h.v]:=Option.some.inj (hcs.symm.trans hat)
        refine And.intro rfl ?_
        rintro _ rfl hlen2
        refine j5.snoc (J7 hn (by kernel_rfl) ?_)
        refine And.intro (by omega) (And.intro (by simpa using hkz) ?_)
        refine And.intro (by simpa using hkz) (fun cs hcs=>?_)
        have hcs:(C8 z)[k]?=some cs:=hcs
        obtain rfl:cs=aI5 x++[.con h.v]:=Option.some.inj (hcs.symm.trans hat)
        refine And.intro rfl ?_
        refine Exists.intro (List.map N8 [⟨c,0⟩]) (And.intro (by repeat (first|exact trivial|exact rfl|(refine And.intro ?_ ?_))) ?_)
        refine And.intro ?_ (Exists.intro (List.map N8 (x.classes++[⟨c,0⟩])) (And.intro (bO3 (y7 _)) ?_))
        · show ((x.classes.map N8).length+1)*16≤_
          rw [List.length_map]
          exact hq5
        refine And.intro (by omega) (And.intro (by simpa using hkz) ?_)
        refine And.intro (by simpa using hkz) (And.intro ?_ ?_)
        · intro cs hcs
          have hcs:(C8 z)[k]?=some cs:=hcs
          obtain rfl:cs=aI5 x++[.con h.v]:=Option.some.inj (hcs.symm.trans hat)
          show 3 < 4
          omega
        show G6 Γ _ _ _
        refine G6.gh (Gh.rowx 102 106 rfl rfl rfl (fun _=>rfl) rfl) (fun g=>?_)
        refine G6.done ?_
        have ex:ixd (fun y:Ln=>decide (y.cls=c)) ⟨c,0⟩ x.classes=(x.classes++[⟨c,0⟩],x.classes.length):=by unfold ixd; rw [e2]
        refine ⟨⟨(x.classes.length,⟨c,0⟩,g,x.classes++[⟨c,0⟩]),by rw [ex],by rw [ex],by simp⟩,[(104,49),(105,106)],⟨⟨rfl,rfl,?_,trivial⟩,⟨?_,rfl,rfl,rfl,trivial⟩,rfl,rfl⟩⟩
        · exact congrArg AV.int (by simp)
        · refine congrArg (fun q=>some (Obj.row 4 q 113)) ?_
          show aR9 (C8 z) k 3 (.con g.v)=(C8 z).set k _
          unfold aR9
          rw [hat]
          rfl
      · rw [e1] at hge; omega
  · intro k; rw [hn]; rfl
  rintro ⟨⟨j,y,h',ys⟩,hj1,hj2,hj3⟩
  have hat2:((C8 z).set k (aI5 x++[.con h'.v]))[k]?=some (aI5 x++[.con h'.v]):=by rw [List.getElem?_set,if_pos rfl,if_pos hkz]
  have hj3:ys[j]?=some y:=hj3
  have hjl:j < ys.length:=(List.getElem?_eq_some_iff.1 hj3).1
  have hat3:(ys.map N8)[j]?=some (N8 y):=by simp [hj3]
  (repeat (first|refine j6 hn ?_|refine q8 hn ?_|refine O3 hn ?_|refine l8 hn ?_|refine F7 hn ?_|refine p9 hn ?_|refine got hn ?_))
  refine And.intro (by omega) (And.intro (by simpa using hkz) ?_)
  refine And.intro (by simpa using hkz) (fun cs hcs=>?_)
  have hcs:((C8 z).set k (aI5 x++[.con h'.v]))[k]?=some cs:=hcs
  obtain rfl:cs=aI5 x++[.con h'.v]:=Option.some.inj (Eq.trans (Eq.symm hcs) hat2)
  refine And.intro rfl ?_
  refine And.intro (by omega) (And.intro (by simpa using hjl) ?_)
  refine And.intro (by simpa using hjl) (fun cs2 hcs2=>?_)
  have hcs2:(ys.map N8)[j]?=some cs2:=hcs2
  obtain rfl:cs2=N8 y:=Option.some.inj (Eq.trans (Eq.symm hcs2) hat3)
  refine Or.inr ?_
  refine And.intro (by omega) (And.intro (by simpa using hjl) ?_)
  have hzk:k < z.length:=(List.getElem?_eq_some_iff.1 hq1).1
  have hys:ys.set j ⟨y.cls,wr (y.found+1)⟩=aU6 c x.classes:=by
    have h1:ys=(ixd (fun y=>decide (y.cls=c)) ⟨c,0⟩ x.classes).1:=hj1
    have h2:(ixd (fun y=>decide (y.cls=c)) ⟨c,0⟩ x.classes).2=j:=hj2
    unfold aU6
    simp only
    rw [h2,←h1,bO6 hj3]
  refine And.intro (by simpa using hjl) (fun cs3 hcs3=>?_)
  have hcs3:(ys.map N8)[j]?=some cs3:=hcs3
  obtain rfl:cs3=N8 y:=Option.some.inj (Eq.trans (Eq.symm hcs3) hat3)
  refine Exists.intro (List.map N8 (aU6 c x.classes)) (And.intro (by rw [←hys]; exact aM9 hj3 (by repeat (first|exact trivial|exact rfl|(refine And.intro ?_ ?_)))) ?_)
  have hp:(P7 (z.set k (h',aI5 x,(aU6 c x.classes).map N8))).Perm ((h',(aU6 c x.classes).map N8)::(P7 z).eraseIdx k):=by
    rw [show P7 (z.set k (h',aI5 x,(aU6 c x.classes).map N8))=(P7 z).set k (h',(aU6 c x.classes).map N8) by simp [P7,List.map_set]]
    exact set_perm (by simpa [P7] using hzk)
  show j5 Try.prog Γ _ _ _ _
  refine j5.gh (Gh.repin (h:=h') (ls:=(aU6 c x.classes).map N8) (l':=P7 (z.set k (h',aI5 x,(aU6 c x.classes).map N8))) 104 105 103 rfl rfl rfl hp rfl rfl rfl) (fun _=>?_)
  have hz2:(z.set k (h',aI5 x,(aU6 c x.classes).map N8)).map (·.2)=(cL3 s c l).map nTl:=by
    have h2:(ixd (fun t=>decide (t.site=s)) ⟨s,[]⟩ l).2=k:=hq4
    have h3:z.map (·.2)=(ixd (fun t=>decide (t.site=s)) ⟨s,[]⟩ l).1.map nTl:=hq2
    have h4:(ixd (fun t=>decide (t.site=s)) ⟨s,[]⟩ l).1[k]?=some x:=hq3
    unfold cL3
    simp only
    rw [h2,bO6 h4,List.map_set,List.map_set,h3]
    rfl
  refine j5.gh (Gh.close 7 102 103 107 (z.set k (h',aI5 x,(aU6 c x.classes).map N8)) rfl rfl rfl (by show (C8 z).set k _=_; simp [C8,List.map_set]) rfl hz2 rfl rfl rfl rfl rfl) (fun _=>?_)
  show j5 Try.prog Γ _ _ _ _
  refine j5.flat 7 107 108 rfl rfl rfl rfl rfl ?_
  rw [cG4]
  (repeat (first|refine j6 hn ?_|refine q8 hn ?_|refine O3 hn ?_|refine l8 hn ?_|refine F7 hn ?_|refine p9 hn ?_|refine got hn ?_))
  exact ⟨[(0,108)],_,rfl,rfl,⟨rfl,trivial⟩,rfl,rfl,rfl,rfl,rfl⟩

/- cached.Run$1 -/
set_option maxRecDepth 100000 in
set_option maxHeartbeats 8000000 in
theorem b46 (N:Nat) (a0:St) (a1:Int) (a2:ByteArray) (b0:u7) (b1:Wd) (r:(Int×Int×u7)) (h:aH8 N a0 a1 a2 b0 b1=some r):Spec Try.prog 48 [(1048,.box (Q6 b0) 50)] [.agg (Z7 a0),.int a1,.str a2,.ptr 1048 0,.fp (eWd b1)] (.tup [.int r.1,.int r.2.1]) [(1048,.box (Q6 r.2.2) 50)] []:=by
 refine Spec.of C9 Try.func48 rfl Try.ntmps48 (by kernel_rfl) rfl rfl rfl fun Γ hn=>?_
 unfold aH8 at h
 refine j6 hn ?_
 refine j6 hn ?_
 obtain ⟨r1,hr2,h⟩:=j4 h
 show l7 Try.prog _ _ _ _
 refine cA ((cE7 N b0.cells b1 a0 a1 a2 r1 hr2).sw 0 21) ?_
 refine kp [(1,_),(3,_),(5,_),(10,_),(11,_),(12,_),(13,_)] [(5,_),(21,_),(1048,_)] ?_
 refine j6 hn ?_
 refine j6 hn ?_
 obtain ⟨r3,hr4,h⟩:=j4 h
 show l7 Try.prog _ _ _ _
 refine cA ((cH4 N b0.tallies a0 a1 r3 hr4).sw 0 32) ?_
 refine j5.seqQ fun _ A0 _ _=>?_
 refine j6 hn ?_
 obtain ⟨o8,h7,h⟩:=j4 h
 refine jk (ι:={ s // o8=s }) hn (fun s=>[]) (fun s=>[(1048,.box [.sl 4 (List.map J4 b0.world.classes),.sl 2 (List.map H6 b0.world.heap),.int b0.world.epoch,.int b0.ran.value.k,.int b0.ran.value.n,.int b0.ran.err,.int b0.ran.sends,.own 21,.own 32,.int s.1.1,.int s.1.2] 50)]) [(3,_),(11,_),(12,_)] [(21,_),(32,_)] (fun _ A1 _ _=>?_) ?_
 ·refine l8 hn ?_
  refine l5 h7 (fun hb9 h7=>?_) (fun hb9 h7=>?_)
  ·refine q8 hn ?_
   refine Or.inr ?_
   refine A1 _ _ ?_
   exact jn ⟨_,sj h7⟩ []
  refine q8 hn ?_
  refine Or.inr ?_
  refine A1 _ _ ?_
  exact jn ⟨_,sj h7⟩ []
 rintro ⟨⟨v5,v6⟩,rfl⟩
 refine A0 _ _ ?_
 refine j6 hn ?_
 refine j5.fzAll 21 rfl ?_
 refine j5.fzAll 32 rfl ?_
 refine got hn ?_
 obtain rfl:=Option.some.inj h
 exact ⟨[],_,fm⟩

/- run.None -/
set_option maxRecDepth 100000 in
set_option maxHeartbeats 8000000 in
theorem cN3 (N:Nat) (a0:Int) (a1:Int) (r:(Fs×Bool)) (h:bF8 N a0 a1=some r):Spec Try.prog 50 [] [.int a0,.int a1] (.tup [.agg (eFs r.1),.bool r.2]) [] []:=by
 refine Spec.of C9 Try.func50 rfl Try.ntmps50 (by kernel_rfl) rfl rfl rfl fun Γ hn=>?_
 unfold bF8 at h
 refine j6 hn ?_
 refine j6 hn ?_
 refine got hn ?_
 obtain rfl:=Option.some.inj h
 exact ⟨[],_,fm⟩

/- cached.Run -/
set_option maxRecDepth 100000 in
set_option maxHeartbeats 8000000 in
theorem bB1 (N:Nat) (a0:Wd) (a1:K7) (a2:Int) (a3:(List Ce)) (a4:(List Tl)) (r:u7) (h:aN9 N a0 a1 a2 a3 a4=some r):Spec Try.prog 15 [] [.agg (eWd a0),.agg (aX3 a1),.int a2,.sl 6 (List.map eCe a3),.sl 4 (List.map eTl a4)] (.agg (Q6 r)) [] []:=by
 refine Spec.of C9 Try.func15 rfl Try.ntmps15 (by kernel_rfl) rfl rfl rfl fun Γ hn=>?_
 unfold aN9 at h
 refine j6 hn ?_
 refine j6 hn ?_
 obtain ⟨r1,hr2,h⟩:=j4 h
 show l7 Try.prog _ _ _ _
 refine cA ((bG3 N a3 r1 hr2).sw 0 13) ?_
 obtain ⟨r3,hr4,h⟩:=j4 h
 show l7 Try.prog _ _ _ _
 refine cA ((cI2 N a4 r3 hr4).sw 0 15) ?_
 refine j5.gh (Gh.fzBox 5 5 rfl rfl rfl) (fun _=>?_)
 refine j5.leBox 11 [.sl 4 (List.map J4 ([]:List Cl)),.sl 2 (List.map H6 ([]:List Ob)),.int (0:Int),.int (0:Int),.int (0:Int),.int (0:Int),.int (0:Int),.own 13,.own 15,.int (0:Int),.int (0:Int)] rfl (by repeat (first|exact trivial|exact rfl|(refine And.intro ?_ ?_))) ?_
 refine j5.fzAll 13 rfl ?_
 refine j5.fzAll 15 rfl ?_
 refine kp [(2,_),(5,_),(6,_),(10,_),(11,_)] [(6,_),(10,_),(11,_)] ?_
 refine j6 hn ?_
 obtain ⟨r5,hr6,h⟩:=j4 h
 show l7 Try.prog _ _ _ _
 refine cA ((bX7 N a0 a1 a2 (fun x0_ x1_ x2_ s_=>aH8 N x0_ x1_ x2_ s_ a0) (⟨(⟨([]:List Cl),([]:List Ob),(0:Int)⟩:Wd),(⟨(⟨(0:Int),(0:Int)⟩:V),(0:Int),(0:Int)⟩:aF1),r1,r3,(0:Int),(0:Int)⟩:u7) (fun x0_ x1_=>bF8 N x0_ x1_) (fun x0_ x1_ x2_ s_ y_ hy_=>(b46 N x0_ x1_ x2_ s_ a0 y_ hy_).sw 1048 1055) (fun x0_ x1_ y_ hy_=>cN3 N x0_ x1_ y_ hy_) r5 hr6).sw 1055 11) ?_
 refine j6 hn ?_
 refine got hn ?_
 obtain rfl:=Option.some.inj h
 exact ⟨[],_,fm⟩

/- qcref5.WrongCall -/
set_option maxRecDepth 100000 in
set_option maxHeartbeats 8000000 in
theorem bR1 (N:Nat) (a0:Wd) (a1:K7) (a2:Int) (r:Int) (h:aH4 N a0 a1 a2=some r):Spec Try.prog 58 [] [.agg (eWd a0),.agg (aX3 a1),.int a2] (.int r) [] []:=by
 refine Spec.of C9 Try.func58 rfl Try.ntmps58 (by kernel_rfl) rfl rfl rfl fun Γ hn=>?_
 unfold aH4 at h
 refine j6 hn ?_
 refine j5.seqQ fun _ A0 _ R0=>?_
 refine j6 hn ?_
 obtain ⟨r1,hr2,h⟩:=j4 h
 show l7 Try.prog _ _ _ _
 refine cA (aL3 N a1.name r1 hr2) ?_
 refine l8 hn ?_
 refine l5 h (fun hb3 h=>?_) (fun hb3 h=>?_)
 ·refine j6 hn ?_
  refine got hn ?_
  refine R0 _ _ ?_
  obtain rfl:=Option.some.inj h
  exact ⟨[],_,fm⟩
 refine p9 hn ?_
 refine A0 _ _ ?_
 refine j5.seqQ fun _ A1 _ R1=>?_
 refine j6 hn ?_
 refine z8 (fun _=>?_)
 refine l8 hn ?_
 refine l5 h (fun hb5 h=>?_) (fun hb5 h=>?_)
 ·refine j6 hn ?_
  refine got hn ?_
  refine R1 _ _ ?_
  obtain rfl:=Option.some.inj h
  exact ⟨[],_,fm⟩
 refine p9 hn ?_
 refine A1 _ _ ?_
 refine j5.seqQ fun _ A2 _ R2=>?_
 refine j5.seqQ fun _ A3 _ _=>?_
 obtain ⟨o8,h7,h⟩:=j4 h
 refine jk (ι:={ s // o8=s }) hn (fun s=>[(24,.bool s.1)]) (fun s=>[]) [(3,_),(4,_)] [(3,_),(4,_)] (fun _ A4 _ _=>?_) ?_
 ·refine q8 hn ?_
  refine l5 h7 (fun hb9 h7=>?_) (fun hb9 h7=>?_)
  ·refine j3 hb9 ?_
   refine j3 hb9 ?_
   refine A4 _ _ ?_
   exact jn ⟨_,sj h7⟩ []
  refine d9 hb9 ?_
  refine d9 hb9 ?_
  refine A4 _ _ ?_
  exact jn ⟨_,sj h7⟩ []
 rintro ⟨v6,hv_⟩
 replace hv_:=hv_.symm
 subst hv_
 refine A3 _ _ ?_
 refine l8 hn ?_
 refine l5 h (fun hb10 h=>?_) (fun hb10 h=>?_)
 ·refine j6 hn ?_
  refine got hn ?_
  refine R2 _ _ ?_
  obtain rfl:=Option.some.inj h
  exact ⟨[],_,fm⟩
 refine p9 hn ?_
 refine A2 _ _ ?_
 refine j5.seqQ fun _ A5 _ R5=>?_
 refine j6 hn ?_
 refine z8 (fun _=>?_)
 obtain ⟨r12,hr13,h⟩:=j4 h
 show l7 Try.prog _ _ _ _
 refine cA (aY2 N a1.self_ (a0.heap.length:Int) r12 hr13) ?_
 refine j6 hn ?_
 refine l8 hn ?_
 refine l5 h (fun hb14 h=>?_) (fun hb14 h=>?_)
 ·refine j6 hn ?_
  refine got hn ?_
  refine R5 _ _ ?_
  obtain rfl:=Option.some.inj h
  exact ⟨[],_,fm⟩
 refine p9 hn ?_
 refine A5 _ _ ?_
 refine j5.seqQ fun _ A6 _ R6=>?_
 refine j6 hn ?_
 refine z8 (fun hl15=>?_)
 obtain ⟨o17,h18,h⟩:=j4 h
 refine jk (ι:={ s // o17=D5.next s }) hn (fun s=>[]) (fun s=>[]) [] [] (fun _ A7 _ R7=>?_) ?_
 ·refine j5.blkQ fun _ _ E8 _ R8=>?_
  refine lq (ι:={ q:((List V)×Nat) // q.1=a1.args.drop q.2∧U5 N a0 q.1 q.2=some o17 }) hn (fun q=>[(37,.int (q.1.2:Int))]) (fun q=>[]) (fun q=>q.1.1.length) [(3,_),(35,_),(36,_)] [(3,_)] ⟨(a1.args,0),rfl,h18⟩ [] ?_
  rintro ⟨⟨rest_,k16⟩,hd20,h18⟩ _ A9 X9 R9
  replace hd20:rest_=a1.args.drop k16:=hd20
  rcases rest_ with _|⟨x22,rest19⟩
  ·have hlt24:=J5 hd20
   replace h18:=(U5.eq_1 _ _ _).symm.trans h18
   refine j6 hn ?_
   refine j5.seqQ fun _ _ X10 _=>?_
   refine l8 hn ?_
   refine d9 hlt24 ?_
   refine F7 hn ?_
   refine X10 _ _ _ ?_
   refine X9 _ _ _ ?_
   refine E8 _ _ ?_
   refine A7 _ _ ?_
   exact jn ⟨_,sj h18⟩ []
  ·obtain ⟨hx23,hd2,hlt24⟩:=F9 hd20
   replace h18:=(U5.eq_2 _ _ _ _ _).symm.trans h18
   refine j6 hn ?_
   refine j5.seqQ fun _ A11 _ _=>?_
   refine l8 hn ?_
   refine j3 hlt24 ?_
   refine p9 hn ?_
   refine A11 _ _ ?_
   refine j5.seqQ fun _ A12 _ R12=>?_
   refine j5.blkQ fun _ A13 _ _ R13=>?_
   refine j6 hn ?_
   refine aC1 hx23 ?_
   refine j6 hn ?_
   refine z8 (fun _=>?_)
   obtain ⟨r26,hr27,h18⟩:=j4 h18
   show l7 Try.prog _ _ _ _
   refine cA (aY2 N x22 (a0.heap.length:Int) r26 hr27) ?_
   refine j6 hn ?_
   refine l8 hn ?_
   refine l5 h18 (fun hb28 h18=>?_) (fun hb28 h18=>?_)
   ·refine j6 hn ?_
    refine got hn ?_
    refine R13 _ _ ?_
    refine R12 _ _ ?_
    refine R9 _ _ ?_
    refine R8 _ _ ?_
    refine R7 _ _ ?_
    refine R6 _ _ ?_
    obtain rfl:=Option.some.inj h18
    obtain rfl:=Option.some.inj h
    exact ⟨[],_,fm⟩
   refine p9 hn ?_
   refine A13 _ _ ?_
   refine A12 _ _ ?_
   refine q8 hn ?_
   refine Or.inl (And.intro (Z8 hx23 hl15) ?_)
   refine A9 _ _ ?_
   exact jn ⟨(rest19,k16+1),hd2,h18⟩ [] (by show rest19.length < rest19.length+1; omega)
 rintro ⟨⟨⟩,rfl⟩
 refine A6 _ _ ?_
 refine j6 hn ?_
 refine got hn ?_
 obtain rfl:=Option.some.inj h
 exact ⟨[],_,fm⟩

/- qcref1.Class -/
set_option maxRecDepth 100000 in
set_option maxHeartbeats 8000000 in
theorem bH5 (N:Nat) (a0:(List Ob)) (a1:V) (r:Int) (h:aL4 N a0 a1=some r):Spec Try.prog 59 [] [.sl 2 (List.map H6 a0),.agg (eV a1)] (.int r) [] []:=by
 refine Spec.of C9 Try.func59 rfl Try.ntmps59 (by kernel_rfl) rfl rfl rfl fun Γ hn=>?_
 unfold aL4 at h
 refine j6 hn ?_
 refine j5.seqQ fun _ A0 _ R0=>?_
 refine j5.seqQ fun _ A1 _ _=>?_
 obtain ⟨o3,h2,h⟩:=j4 h
 refine jk (ι:={ s // o3=s }) hn (fun s=>[(19,.bool s.1)]) (fun s=>[]) [(0,_),(3,_)] [(3,_)] (fun _ A2 _ _=>?_) ?_
 ·refine q8 hn ?_
  refine l5 h2 (fun hb4 h2=>?_) (fun hb4 h2=>?_)
  ·refine j3 hb4 ?_
   refine j3 hb4 ?_
   refine j3 hb4 ?_
   refine l5 h2 (fun hb5 h2=>?_) (fun hb5 h2=>?_)
   ·refine j3 hb5 ?_
    refine j3 hb5 ?_
    refine j3 hb5 ?_
    refine z8 (fun _=>?_)
    refine j3 hb5 ?_
    refine j3 hb5 ?_
    refine A2 _ _ ?_
    exact jn ⟨_,sj h2⟩ []
   refine d9 hb5 ?_
   refine d9 hb5 ?_
   refine d9 hb5 ?_
   refine d9 hb5 ?_
   refine d9 hb5 ?_
   refine A2 _ _ ?_
   exact jn ⟨_,sj h2⟩ []
  refine d9 hb4 ?_
  refine d9 hb4 ?_
  refine d9 hb4 ?_
  refine A2 _ _ ?_
  exact jn ⟨_,sj h2⟩ []
 rintro ⟨v1,hv_⟩
 replace hv_:=hv_.symm
 subst hv_
 refine A1 _ _ ?_
 refine l8 hn ?_
 refine l5 h (fun hb7 h=>?_) (fun hb7 h=>?_)
 ·refine j6 hn ?_
  obtain ⟨x8,hx9,h⟩:=j4 h
  refine N9 hx9 ?_
  refine got hn ?_
  refine R0 _ _ ?_
  obtain rfl:=Option.some.inj h
  exact ⟨[],_,fm⟩
 refine p9 hn ?_
 refine A0 _ _ ?_
 refine j5.seqQ fun _ A3 _ R3=>?_
 refine j5.seqQ fun _ A4 _ _=>?_
 obtain ⟨o12,h11,h⟩:=j4 h
 refine jk (ι:={ s // o12=s }) hn (fun s=>[(33,.bool s.1)]) (fun s=>[]) [(3,_)] [(3,_)] (fun _ A5 _ _=>?_) ?_
 ·refine q8 hn ?_
  refine l5 h11 (fun hb13 h11=>?_) (fun hb13 h11=>?_)
  ·refine j3 hb13 ?_
   refine j3 hb13 ?_
   refine j3 hb13 ?_
   refine A5 _ _ ?_
   exact jn ⟨_,sj h11⟩ []
  refine d9 hb13 ?_
  refine d9 hb13 ?_
  refine d9 hb13 ?_
  refine A5 _ _ ?_
  exact jn ⟨_,sj h11⟩ []
 rintro ⟨v10,hv_⟩
 replace hv_:=hv_.symm
 subst hv_
 refine A4 _ _ ?_
 refine l8 hn ?_
 refine l5 h (fun hb14 h=>?_) (fun hb14 h=>?_)
 ·refine j6 hn ?_
  refine got hn ?_
  refine R3 _ _ ?_
  obtain rfl:=Option.some.inj h
  exact ⟨[],_,fm⟩
 refine p9 hn ?_
 refine A3 _ _ ?_
 refine j6 hn ?_
 refine Exists.intro (List.map K6 [(1:Int),(2:Int),(2:Int),(3:Int)]) (And.intro (by repeat (first|exact trivial|exact rfl|(refine And.intro ?_ ?_))) ?_)
 obtain ⟨x15,hx16,h⟩:=j4 h
 refine Y3 hx16 ?_
 refine V5 (y9 hx16).2 ?_
 refine got hn ?_
 obtain rfl:=Option.some.inj h
 exact ⟨[],_,fm⟩

/- qcref1.Bool -/
set_option maxRecDepth 100000 in
set_option maxHeartbeats 8000000 in
theorem aR6 (N:Nat) (a0:Bool) (r:V) (h:aK1 N a0=some r):Spec Try.prog 106 [] [.bool a0] (.agg (eV r)) [] []:=by
 refine Spec.of C9 Try.func106 rfl Try.ntmps106 (by kernel_rfl) rfl rfl rfl fun Γ hn=>?_
 unfold aK1 at h
 refine j6 hn ?_
 refine j5.seqQ fun _ A0 _ R0=>?_
 refine j6 hn ?_
 refine l8 hn ?_
 refine l5 h (fun hb1 h=>?_) (fun hb1 h=>?_)
 ·refine j6 hn ?_
  refine got hn ?_
  refine R0 _ _ ?_
  obtain rfl:=Option.some.inj h
  exact ⟨[],_,fm⟩
 refine p9 hn ?_
 refine A0 _ _ ?_
 refine j6 hn ?_
 refine got hn ?_
 obtain rfl:=Option.some.inj h
 exact ⟨[],_,fm⟩

/- qcref1.Prim -/
set_option maxRecDepth 100000 in
set_option maxHeartbeats 8000000 in
theorem cA5 (N:Nat) (a0:Int) (a1:V) (a2:V) (r:(V×Int)) (h:aT4 N a0 a1 a2=some r):Spec Try.prog 87 [] [.int a0,.agg (eV a1),.agg (eV a2)] (.tup [.agg (eV r.1),.int r.2]) [] []:=by
 refine Spec.of C9 Try.func87 rfl Try.ntmps87 (by kernel_rfl) rfl rfl rfl fun Γ hn=>?_
 unfold aT4 at h
 refine j6 hn ?_
 refine j5.seqQ fun _ A0 _ R0=>?_
 refine j5.seqQ fun _ A1 _ _=>?_
 obtain ⟨o3,h2,h⟩:=j4 h
 refine jk (ι:={ s // o3=s }) hn (fun s=>[(17,.bool s.1)]) (fun s=>[]) [(0,_),(4,_),(5,_),(6,_)] [(4,_),(5,_),(6,_)] (fun _ A2 _ _=>?_) ?_
 ·refine q8 hn ?_
  refine l5 h2 (fun hb4 h2=>?_) (fun hb4 h2=>?_)
  ·refine j3 hb4 ?_
   refine j3 hb4 ?_
   refine j3 hb4 ?_
   refine A2 _ _ ?_
   exact jn ⟨_,sj h2⟩ []
  refine d9 hb4 ?_
  refine d9 hb4 ?_
  refine d9 hb4 ?_
  refine A2 _ _ ?_
  exact jn ⟨_,sj h2⟩ []
 rintro ⟨v1,hv_⟩
 replace hv_:=hv_.symm
 subst hv_
 refine A1 _ _ ?_
 refine l8 hn ?_
 refine l5 h (fun hb5 h=>?_) (fun hb5 h=>?_)
 ·refine j6 hn ?_
  refine got hn ?_
  refine R0 _ _ ?_
  obtain rfl:=Option.some.inj h
  exact ⟨[],_,fm⟩
 refine p9 hn ?_
 refine A0 _ _ ?_
 refine j6 hn ?_
 refine j5.seqQ fun _ A3 _ R3=>?_
 refine j6 hn ?_
 obtain ⟨o8,h7,h⟩:=j4 h
 refine jk (ι:={ s // o8=D5.next s }) hn (fun s=>[(8,.int s.1)]) (fun s=>[]) [(6,_)] [(6,_)] (fun _ A4 _ R4=>?_) ?_
 ·refine j5.blkQ fun _ A5 _ _ R5=>?_
  refine j6 hn ?_
  obtain ⟨o11,h10,h7⟩:=j4 h7
  refine jk (ι:={ s // o11=D5.next s }) hn (fun s=>[(8,.int s.1)]) (fun s=>[]) [(6,_)] [(6,_)] (fun _ A6 _ R6=>?_) ?_
  ·refine l8 hn ?_
   refine l5 h10 (fun hb12 h10=>?_) (fun hb12 h10=>?_)
   ·refine q8 hn ?_
    refine Or.inr ?_
    refine A6 _ _ ?_
    exact jn ⟨_,sj h10⟩ []
   refine j6 hn ?_
   obtain ⟨o15,h14,h10⟩:=j4 h10
   refine jk (ι:={ s // o15=D5.next s }) hn (fun s=>[(8,.int s.1)]) (fun s=>[]) [(6,_)] [(6,_)] (fun _ A7 _ R7=>?_) ?_
   ·refine l8 hn ?_
    refine l5 h14 (fun hb16 h14=>?_) (fun hb16 h14=>?_)
    ·refine q8 hn ?_
     refine Or.inr ?_
     refine A7 _ _ ?_
     exact jn ⟨_,sj h14⟩ []
    refine j6 hn ?_
    refine l8 hn ?_
    refine l5 h14 (fun hb17 h14=>?_) (fun hb17 h14=>?_)
    ·refine q8 hn ?_
     refine Or.inr ?_
     refine A7 _ _ ?_
     exact jn ⟨_,sj h14⟩ []
    refine j6 hn ?_
    refine l8 hn ?_
    refine l5 h14 (fun hb18 h14=>?_) (fun hb18 h14=>?_)
    ·refine j6 hn ?_
     obtain ⟨r19,hr20,h14⟩:=j4 h14
     show l7 Try.prog _ _ _ _
     refine cA (aR6 N (decide (a1.n < a2.n)) r19 hr20) ?_
     refine got hn ?_
     refine R7 _ _ ?_
     refine R6 _ _ ?_
     refine R5 _ _ ?_
     refine R4 _ _ ?_
     refine R3 _ _ ?_
     obtain rfl:=Option.some.inj h14
     obtain rfl:=Option.some.inj h10
     obtain rfl:=Option.some.inj h7
     obtain rfl:=Option.some.inj h
     exact ⟨[],_,fm⟩
    refine j6 hn ?_
    refine l8 hn ?_
    refine l5 h14 (fun hb21 h14=>?_) (fun hb21 h14=>?_)
    ·refine kp [(4,_),(5,_),(6,_)] [(4,_),(5,_),(6,_)] ?_
     refine j6 hn ?_
     obtain ⟨r22,hr23,h14⟩:=j4 h14
     show l7 Try.prog _ _ _ _
     refine cA (aR6 N (decide (a1.n=a2.n)) r22 hr23) ?_
     refine got hn ?_
     refine R7 _ _ ?_
     refine R6 _ _ ?_
     refine R5 _ _ ?_
     refine R4 _ _ ?_
     refine R3 _ _ ?_
     obtain rfl:=Option.some.inj h14
     obtain rfl:=Option.some.inj h10
     obtain rfl:=Option.some.inj h7
     obtain rfl:=Option.some.inj h
     exact ⟨[],_,fm⟩
    refine kp [(6,_)] [(6,_)] ?_
    refine j6 hn ?_
    refine got hn ?_
    refine R7 _ _ ?_
    refine R6 _ _ ?_
    refine R5 _ _ ?_
    refine R4 _ _ ?_
    refine R3 _ _ ?_
    obtain rfl:=Option.some.inj h14
    obtain rfl:=Option.some.inj h10
    obtain rfl:=Option.some.inj h7
    obtain rfl:=Option.some.inj h
    exact ⟨[],_,fm⟩
   rintro ⟨v13,rfl⟩
   refine A6 _ _ ?_
   exact jn ⟨_,sj h10⟩ []
  rintro ⟨v9,rfl⟩
  refine A5 _ _ ?_
  refine A4 _ _ ?_
  exact jn ⟨_,sj h7⟩ []
 rintro ⟨v6,rfl⟩
 refine A3 _ _ ?_
 refine j6 hn ?_
 refine j5.seqQ fun _ A8 _ R8=>?_
 refine j6 hn ?_
 refine l8 hn ?_
 refine l5 h (fun hb24 h=>?_) (fun hb24 h=>?_)
 ·refine j6 hn ?_
  obtain ⟨hg25,h⟩:=D6 h
  refine dE1 hg25 ?_
  refine Or.inr ?_
  refine Or.inr ?_
  refine got hn ?_
  refine R8 _ _ ?_
  obtain rfl:=Option.some.inj h
  exact ⟨[],_,fm⟩
 refine p9 hn ?_
 refine A8 _ _ ?_
 refine j6 hn ?_
 obtain ⟨hg26,h⟩:=D6 h
 refine cP9 hg26 ?_
 obtain ⟨hg27,h⟩:=D6 h
 refine dE1 hg27 ?_
 refine Or.inr ?_
 refine Or.inr ?_
 refine got hn ?_
 obtain rfl:=Option.some.inj h
 exact ⟨[],_,fm⟩

/- (*qcref5.R).Enter -/
set_option maxRecDepth 100000 in
set_option maxHeartbeats 8000000 in
theorem bR2 (N:Nat) (gR:(Nat→TR→Int→Me→V→(List V)→Option (V×TR))) (a0:TR) (a1:Int) (a2:Int) (a3:V) (a4:(List V)) (hgR:∀(N:Nat) (a0:TR) (a1:Int) (a2:Me) (a3:V) (a4:(List V)) (r:(V×TR)),gR N a0 a1 a2 a3 a4=some r→Spec Try.prog 88 [(1000,.box [.sl 4 (List.map J4 a0.w.classes),.sl 2 (List.map H6 a0.w.heap),.int a0.w.epoch,.int a0.fuel,.int a0.sends,.int a0.turns,.int a0.deep,.int a0.err,.own 1001,.own 1002] 109),(1001,.row 3 (List.map Z7 a0.sites) 23),(1002,.row 1 (List.map K6 a0.of) 3)] [.ptr 1000 0,.int a1,.agg (eMe a2),.agg (eV a3),.sl 2 (List.map eV a4)] (.agg (eV r.1)) [(1000,.box [.sl 4 (List.map J4 r.2.w.classes),.sl 2 (List.map H6 r.2.w.heap),.int r.2.w.epoch,.int r.2.fuel,.int r.2.sends,.int r.2.turns,.int r.2.deep,.int r.2.err,.own 2,.own 3] 109),(2,.row 3 (List.map Z7 r.2.sites) 23),(1001,.gone),(3,.row 1 (List.map K6 r.2.of) 3),(1002,.gone)] [2,3]) (r:(V×TR)) (h:aI3 N gR a0 a1 a2 a3 a4=some r):Spec Try.prog 60 [(1000,.box [.sl 4 (List.map J4 a0.w.classes),.sl 2 (List.map H6 a0.w.heap),.int a0.w.epoch,.int a0.fuel,.int a0.sends,.int a0.turns,.int a0.deep,.int a0.err,.own 1001,.own 1002] 109),(1001,.row 3 (List.map Z7 a0.sites) 23),(1002,.row 1 (List.map K6 a0.of) 3)] [.ptr 1000 0,.int a1,.int a2,.agg (eV a3),.sl 2 (List.map eV a4)] (.agg (eV r.1)) [(1000,.box [.sl 4 (List.map J4 r.2.w.classes),.sl 2 (List.map H6 r.2.w.heap),.int r.2.w.epoch,.int r.2.fuel,.int r.2.sends,.int r.2.turns,.int r.2.deep,.int r.2.err,.own 2,.own 3] 109),(2,.row 3 (List.map Z7 r.2.sites) 23),(1001,.gone),(3,.row 1 (List.map K6 r.2.of) 3),(1002,.gone)] [2,3]:=by
 refine Spec.of C9 Try.func60 rfl Try.ntmps60 (by kernel_rfl) rfl rfl rfl fun Γ hn=>?_
 unfold aI3 at h
 refine j5.reidB 1000 8 1001 320 rfl rfl rfl rfl rfl rfl rfl rfl rfl ?_
 refine j5.reidB 1000 9 1002 321 rfl rfl rfl rfl rfl rfl rfl rfl rfl ?_
 refine j6 hn ?_
 refine j6 hn ?_
 obtain ⟨x1,hx2,h⟩:=j4 h
 refine N9 hx2 ?_
 obtain ⟨x3,hx4,h⟩:=j4 h
 refine N9 hx4 ?_
 refine j5.seqQ fun _ A0 _ R0=>?_
 refine kp [(0,_),(1,_),(4,_),(8,_),(10,_),(11,_)] [(8,_),(10,_),(11,_),(320,_),(321,_),(1000,_),(1001,_),(1002,_)] ?_
 refine j6 hn ?_
 refine z8 (fun _=>?_)
 refine l8 hn ?_
 refine l5 h (fun hb6 h=>?_) (fun hb6 h=>?_)
 ·refine j6 hn ?_
  refine j6 hn ?_
  refine got hn ?_
  refine R0 _ _ ?_
  obtain rfl:=Option.some.inj h
  exact ⟨[(2,320),(3,321)],_,fm⟩
 refine p9 hn ?_
 refine A0 _ _ ?_
 refine j5.seqQ fun _ A1 _ R1=>?_
 refine j5.seqQ fun _ A2 _ _=>?_
 refine J7 hn (by kernel_rfl) ?_
 refine A2 _ _ ?_
 refine l8 hn ?_
 refine l5 h (fun hb7 h=>?_) (fun hb7 h=>?_)
 ·refine kp [(0,_),(10,_)] [(10,_),(320,_),(321,_),(1000,_),(1001,_),(1002,_)] ?_
  refine j6 hn ?_
  refine j6 hn ?_
  refine got hn ?_
  refine R1 _ _ ?_
  obtain rfl:=Option.some.inj h
  exact ⟨[(2,320),(3,321)],_,fm⟩
 refine p9 hn ?_
 refine A1 _ _ ?_
 refine j5.seqQ fun _ A3 _ R3=>?_
 refine kp [(0,_),(1,_),(4,_),(8,_),(10,_),(11,_)] [(8,_),(10,_),(11,_),(320,_),(321,_),(1000,_),(1001,_),(1002,_)] ?_
 refine j6 hn ?_
 refine l8 hn ?_
 refine l5 h (fun hb8 h=>?_) (fun hb8 h=>?_)
 ·refine j6 hn ?_
  refine Or.inr ?_
  refine j5.seqQ fun _ A4 _ _=>?_
  refine J7 hn (by kernel_rfl) ?_
  obtain ⟨x9,hx10,h⟩:=j4 h
  refine N9 hx10 ?_
  obtain ⟨r11,hr12,h⟩:=j4 h
  show l7 Try.prog _ _ _ _
  refine cA (cA5 N x3.prim a3 x9 r11 hr12) ?_
  refine A4 _ _ ?_
  refine kp [(0,_),(10,_),(12,_),(13,_)] [(10,_),(12,_),(320,_),(321,_),(1000,_),(1001,_),(1002,_)] ?_
  refine j6 hn ?_
  refine j6 hn ?_
  refine got hn ?_
  refine R3 _ _ ?_
  obtain rfl:=Option.some.inj h
  exact ⟨[(2,320),(3,321)],_,fm⟩
 refine p9 hn ?_
 refine A3 _ _ ?_
 refine j5.seqQ fun _ A5 _ R5=>?_
 refine j6 hn ?_
 refine l8 hn ?_
 refine l5 h (fun hb13 h=>?_) (fun hb13 h=>?_)
 ·refine j6 hn ?_
  refine kp [(0,_),(10,_)] [(10,_),(320,_),(321,_),(1000,_),(1001,_),(1002,_)] ?_
  refine j6 hn ?_
  refine got hn ?_
  refine R5 _ _ ?_
  obtain rfl:=Option.some.inj h
  exact ⟨[(2,320),(3,321)],_,fm⟩
 refine p9 hn ?_
 refine A5 _ _ ?_
 refine j6 hn ?_
 refine Or.inr ?_
 refine kp [(0,_),(1,_),(4,_),(8,_),(10,_),(11,_)] [(8,_),(10,_),(11,_),(320,_),(321,_),(1000,_),(1001,_),(1002,_)] ?_
 refine j6 hn ?_
 refine Or.inr ?_
 refine j6 hn ?_
 obtain ⟨r14,hr15,h⟩:=j4 h
 show l7 Try.prog _ _ _ _
 refine cA ((hgR N (⟨a0.w,a0.fuel,(wr (a0.sends+(1:Int))),a0.turns,(wr (a0.deep+(1:Int))),a0.err,a0.sites,a0.of⟩:TR) a1 x3 a3 a4 r14 hr15).swl [(1001,320),(1002,321),(2,501),(3,502)] rfl) ?_
 refine kp [(0,_),(10,_),(14,_)] [(10,_),(14,_),(501,_),(502,_),(1000,_),(1001,_),(1002,_)] ?_
 refine j6 hn ?_
 refine Or.inr ?_
 refine j6 hn ?_
 refine got hn ?_
 obtain rfl:=Option.some.inj h
 exact ⟨[(2,501),(3,502)],_,fm⟩

/- qcref1.Slot -/
set_option maxRecDepth 100000 in
set_option maxHeartbeats 8000000 in
theorem b62 (N:Nat) (a0:(List Ob)) (a1:V) (a2:Int) (r:V) (h:aT9 N a0 a1 a2=some r):Spec Try.prog 108 [] [.sl 2 (List.map H6 a0),.agg (eV a1),.int a2] (.agg (eV r)) [] []:=by
 refine Spec.of C9 Try.func108 rfl Try.ntmps108 (by kernel_rfl) rfl rfl rfl fun Γ hn=>?_
 unfold aT9 at h
 refine j6 hn ?_
 refine j5.seqQ fun _ A0 _ R0=>?_
 refine j5.seqQ fun _ A1 _ _=>?_
 obtain ⟨o3,h2,h⟩:=j4 h
 refine jk (ι:={ s // o3=s }) hn (fun s=>[(23,.bool s.1)]) (fun s=>[]) [(0,_),(2,_),(4,_),(6,_)] [(4,_),(6,_)] (fun _ A2 _ _=>?_) ?_
 ·refine q8 hn ?_
  refine l5 h2 (fun hb4 h2=>?_) (fun hb4 h2=>?_)
  ·refine j3 hb4 ?_
   refine j3 hb4 ?_
   refine j3 hb4 ?_
   refine l5 h2 (fun hb5 h2=>?_) (fun hb5 h2=>?_)
   ·refine j3 hb5 ?_
    refine j3 hb5 ?_
    refine j3 hb5 ?_
    refine z8 (fun _=>?_)
    refine j3 hb5 ?_
    refine j3 hb5 ?_
    refine A2 _ _ ?_
    exact jn ⟨_,sj h2⟩ []
   refine d9 hb5 ?_
   refine d9 hb5 ?_
   refine d9 hb5 ?_
   refine d9 hb5 ?_
   refine d9 hb5 ?_
   refine A2 _ _ ?_
   exact jn ⟨_,sj h2⟩ []
  refine d9 hb4 ?_
  refine d9 hb4 ?_
  refine d9 hb4 ?_
  refine A2 _ _ ?_
  exact jn ⟨_,sj h2⟩ []
 rintro ⟨v1,hv_⟩
 replace hv_:=hv_.symm
 subst hv_
 refine A1 _ _ ?_
 obtain ⟨o8,h7,h⟩:=j4 h
 refine jk (ι:={ s // o8=D5.next s }) hn (fun s=>[]) (fun s=>[]) [(6,_)] [(6,_)] (fun _ A3 _ R3=>?_) ?_
 ·refine l8 hn ?_
  refine l5 h7 (fun hb9 h7=>?_) (fun hb9 h7=>?_)
  ·refine j6 hn ?_
   obtain ⟨x10,hx11,h7⟩:=j4 h7
   refine N9 hx11 ?_
   refine z8 (fun hl12=>?_)
   obtain ⟨o14,h15,h7⟩:=j4 h7
   refine jk (ι:={ s // o14=D5.next s }) hn (fun s=>[]) (fun s=>[]) [(6,_)] [(6,_)] (fun _ A4 _ R4=>?_) ?_
   ·refine j5.blkQ fun _ _ E5 _ R5=>?_
    refine lq (ι:={ q:((List V)×Nat) // q.1=x10.slots.drop q.2∧aA1 N a2 q.1 q.2=some o14 }) hn (fun q=>[(31,.int (q.1.2:Int))]) (fun q=>[]) (fun q=>q.1.1.length) [(2,_),(6,_),(29,_),(30,_)] [(6,_)] ⟨(x10.slots,0),rfl,h15⟩ [] ?_
    rintro ⟨⟨rest_,k13⟩,hd17,h15⟩ _ A6 X6 R6
    replace hd17:rest_=x10.slots.drop k13:=hd17
    rcases rest_ with _|⟨x19,rest16⟩
    ·have hlt21:=J5 hd17
     replace h15:=(aA1.eq_1 _ _ _).symm.trans h15
     refine j6 hn ?_
     refine j5.seqQ fun _ _ X7 _=>?_
     refine l8 hn ?_
     refine d9 hlt21 ?_
     refine F7 hn ?_
     refine X7 _ _ _ ?_
     refine X6 _ _ _ ?_
     refine E5 _ _ ?_
     refine A4 _ _ ?_
     exact jn ⟨_,sj h15⟩ []
    ·obtain ⟨hx20,hd2,hlt21⟩:=F9 hd17
     replace h15:=(aA1.eq_2 _ _ _ _ _).symm.trans h15
     refine j6 hn ?_
     refine j5.seqQ fun _ A8 _ _=>?_
     refine l8 hn ?_
     refine j3 hlt21 ?_
     refine p9 hn ?_
     refine A8 _ _ ?_
     refine j5.seqQ fun _ A9 _ R9=>?_
     refine j5.blkQ fun _ A10 _ _ R10=>?_
     refine j6 hn ?_
     refine aC1 hx20 ?_
     refine j6 hn ?_
     refine l8 hn ?_
     refine l5 h15 (fun hb22 h15=>?_) (fun hb22 h15=>?_)
     ·refine j6 hn ?_
      refine got hn ?_
      refine R10 _ _ ?_
      refine R9 _ _ ?_
      refine R6 _ _ ?_
      refine R5 _ _ ?_
      refine R4 _ _ ?_
      refine R3 _ _ ?_
      refine R0 _ _ ?_
      obtain rfl:=Option.some.inj h15
      obtain rfl:=Option.some.inj h7
      obtain rfl:=Option.some.inj h
      exact ⟨[],_,fm⟩
     refine p9 hn ?_
     refine A10 _ _ ?_
     refine A9 _ _ ?_
     refine q8 hn ?_
     refine Or.inl (And.intro (Z8 hx20 hl12) ?_)
     refine A6 _ _ ?_
     exact jn ⟨(rest16,k13+1),hd2,h15⟩ [] (by show rest16.length < rest16.length+1; omega)
   rintro ⟨⟨⟩,rfl⟩
   refine A3 _ _ ?_
   exact jn ⟨_,sj h7⟩ []
  refine p9 hn ?_
  refine A3 _ _ ?_
  exact jn ⟨_,sj h7⟩ []
 rintro ⟨⟨⟩,rfl⟩
 refine A0 _ _ ?_
 refine j6 hn ?_
 refine got hn ?_
 obtain rfl:=Option.some.inj h
 exact ⟨[],_,fm⟩

/- (*qcref5.R).Body$1 -/
set_option maxRecDepth 100000 in
set_option maxHeartbeats 8000000 in
theorem aA6 (N:Nat) (b0:(List V)) (r:(V×(List V))) (h:P8 N b0=some r):Spec Try.prog 107 [(1000,.box [.own 1001] 40),(1001,.row 2 (List.map eV b0) 39)] [.ptr 1000 0] (.agg (eV r.1)) [(1000,.box [.own 2] 40),(2,.row 2 (List.map eV r.2) 39),(1001,.gone)] [2]:=by
 refine Spec.of C9 Try.func107 rfl Try.ntmps107 (by kernel_rfl) rfl rfl rfl fun Γ hn=>?_
 unfold P8 at h
 refine j5.reidB 1000 0 1001 320 rfl rfl rfl rfl rfl rfl rfl rfl rfl ?_
 refine j6 hn ?_
 refine j6 hn ?_
 refine z8 (fun _=>?_)
 refine Or.inr ?_
 obtain ⟨x2,hx3,h⟩:=j4 h
 refine Y3 hx3 ?_
 refine V5 (y9 hx3).2 ?_
 refine j6 hn ?_
 refine z8 (fun _=>?_)
 refine Or.inr ?_
 obtain ⟨hg5,h⟩:=D6 h
 refine bH2 hg5 rfl rfl ?_
 refine j6 hn ?_
 refine got hn ?_
 obtain rfl:=Option.some.inj h
 exact ⟨[(2,13)],_,fm⟩

/- (*qcref5.R).slot -/
set_option maxRecDepth 100000 in
set_option maxHeartbeats 8000000 in
theorem b09 (N:Nat) (a0:TR) (a1:V) (a2:Int) (a3:V) (r:TR) (h:aO1 N a0 a1 a2 a3=some r):Spec Try.prog 109 [(1000,.box [.sl 4 (List.map J4 a0.w.classes),.sl 2 (List.map H6 a0.w.heap),.int a0.w.epoch,.int a0.fuel,.int a0.sends,.int a0.turns,.int a0.deep,.int a0.err,.own 1001,.own 1002] 109),(1001,.row 3 (List.map Z7 a0.sites) 23),(1002,.row 1 (List.map K6 a0.of) 3)] [.ptr 1000 0,.agg (eV a1),.int a2,.agg (eV a3)] (.tup []) [(1000,.box [.sl 4 (List.map J4 r.w.classes),.sl 2 (List.map H6 r.w.heap),.int r.w.epoch,.int r.fuel,.int r.sends,.int r.turns,.int r.deep,.int r.err,.own 2,.own 3] 109),(2,.row 3 (List.map Z7 r.sites) 23),(1001,.gone),(3,.row 1 (List.map K6 r.of) 3),(1002,.gone)] [2,3]:=by
 refine Spec.of C9 Try.func109 rfl Try.ntmps109 (by kernel_rfl) rfl rfl rfl fun Γ hn=>?_
 unfold aO1 at h
 refine j5.reidB 1000 8 1001 320 rfl rfl rfl rfl rfl rfl rfl rfl rfl ?_
 refine j5.reidB 1000 9 1002 321 rfl rfl rfl rfl rfl rfl rfl rfl rfl ?_
 refine j6 hn ?_
 refine j6 hn ?_
 refine Or.inr ?_
 refine Exists.intro (List.map H6 ([]:List Ob)) (And.intro (by repeat (first|exact trivial|exact rfl|(refine And.intro ?_ ?_))) ?_)
 obtain ⟨hg1,h⟩:=D6 h
 refine U3 (l2:=a0.w.heap) hg1 (y7 _) ?_
 refine j5.seqQ fun _ A0 _ _=>?_
 obtain ⟨o4,h3,h⟩:=j4 h
 refine jk (ι:={ s // o4=s }) hn (fun s=>[(37,.bool s.1)]) (fun s=>[]) [(0,_),(2,_),(5,_),(7,_),(8,_)] [(5,_),(7,_),(16,_),(320,_),(321,_),(1000,_),(1001,_),(1002,_)] (fun _ A1 _ _=>?_) ?_
 ·refine q8 hn ?_
  refine l5 h3 (fun hb5 h3=>?_) (fun hb5 h3=>?_)
  ·refine j3 hb5 ?_
   refine j3 hb5 ?_
   refine j3 hb5 ?_
   refine z8 (fun _=>?_)
   refine j3 hb5 ?_
   refine j3 hb5 ?_
   refine l5 h3 (fun hb7 h3=>?_) (fun hb7 h3=>?_)
   ·refine j3 hb7 ?_
    refine j3 hb7 ?_
    refine j3 hb7 ?_
    refine j3 hb7 ?_
    obtain ⟨x8,hx9,h3⟩:=j4 h3
    refine Y3 hx9 ?_
    refine j3 hb7 ?_
    refine j3 hb7 ?_
    refine V5 (y9 hx9).2 ?_
    refine j3 hb7 ?_
    refine z8 (fun _=>?_)
    refine j3 hb7 ?_
    refine j3 hb7 ?_
    refine A1 _ _ ?_
    exact jn ⟨_,sj h3⟩ []
   refine d9 hb7 ?_
   refine d9 hb7 ?_
   refine d9 hb7 ?_
   refine d9 hb7 ?_
   refine d9 hb7 ?_
   refine d9 hb7 ?_
   refine d9 hb7 ?_
   refine d9 hb7 ?_
   refine d9 hb7 ?_
   refine A1 _ _ ?_
   exact jn ⟨_,sj h3⟩ []
  refine d9 hb5 ?_
  refine d9 hb5 ?_
  refine d9 hb5 ?_
  refine d9 hb5 ?_
  refine d9 hb5 ?_
  refine A1 _ _ ?_
  exact jn ⟨_,sj h3⟩ []
 rintro ⟨v2,hv_⟩
 replace hv_:=hv_.symm
 subst hv_
 refine A0 _ _ ?_
 obtain ⟨o13,h12,h⟩:=j4 h
 refine jk (ι:={ s // o13=s }) hn (fun s=>[]) (fun s=>[(1000,.box [.sl 4 (List.map J4 a0.w.classes),.sl 2 (List.map H6 s.1),.int a0.w.epoch,.int a0.fuel,.int a0.sends,.int a0.turns,.int a0.deep,.int a0.err,.own 320,.own 321] 109)]) [(0,_)] [(320,_),(321,_),(1001,_),(1002,_)] (fun _ A2 _ _=>?_) ?_
 ·refine l8 hn ?_
  refine l5 h12 (fun hb14 h12=>?_) (fun hb14 h12=>?_)
  ·refine j6 hn ?_
   refine Exists.intro (List.map eV ([]:List V)) (And.intro (by repeat (first|exact trivial|exact rfl|(refine And.intro ?_ ?_))) ?_)
   obtain ⟨x15,hx16,h12⟩:=j4 h12
   refine Y3 hx16 ?_
   refine V5 (y9 hx16).2 ?_
   obtain ⟨hg17,h12⟩:=D6 h12
   refine U3 (l2:=x15.slots) hg17 (y7 _) ?_
   refine j6 hn ?_
   obtain ⟨x18,hx19,h12⟩:=j4 h12
   refine Y3 hx19 ?_
   refine V5 (y9 hx19).2 ?_
   refine Exists.intro (List.map eV ((([]:List V)++x15.slots).set a2.toNat a3)) (And.intro (aM9 (y9 hx19).2 (by repeat (first|exact trivial|exact rfl|(refine And.intro ?_ ?_)))) ?_)
   refine j5.fzAll 45 rfl ?_
   refine kp [(0,_),(5,_),(8,_),(9,_)] [(5,_),(16,_),(320,_),(321,_),(1000,_),(1001,_),(1002,_)] ?_
   refine j6 hn ?_
   obtain ⟨x20,hx21,h12⟩:=j4 h12
   refine Y3 hx21 ?_
   refine V5 (y9 hx21).2 ?_
   refine Exists.intro (List.map H6 ((([]:List Ob)++a0.w.heap).set a1.n.toNat (⟨x20.cls,((([]:List V)++x15.slots).set a2.toNat a3)⟩:Ob))) (And.intro (aM9 (y9 hx21).2 (by repeat (first|exact trivial|exact rfl|(refine And.intro ?_ ?_)))) ?_)
   refine q8 hn ?_
   refine A2 _ _ ?_
   refine G6.fzAll 16 rfl ?_
   exact jn ⟨_,sj h12⟩ []
  refine p9 hn ?_
  refine A2 _ _ ?_
  exact jn ⟨_,sj h12⟩ []
 rintro ⟨v11,hv_⟩
 replace hv_:=hv_.symm
 subst hv_
 obtain rfl:=Option.some.inj h
 exact ⟨[(2,320),(3,321)],_,fm⟩

/- (*qcref5.R).Body -/
set_option maxRecDepth 100000 in
set_option maxHeartbeats 8000000 in
theorem bS1 (N:Nat) (gR:(Nat→TR→Int→Int→V→(List V)→Option (V×TR))) (a0:TR) (a1:Int) (a2:Me) (a3:V) (a4:(List V)) (hgR:∀(N:Nat) (a0:TR) (a1:Int) (a2:Int) (a3:V) (a4:(List V)) (r:(V×TR)),gR N a0 a1 a2 a3 a4=some r→Spec Try.prog 60 [(1000,.box [.sl 4 (List.map J4 a0.w.classes),.sl 2 (List.map H6 a0.w.heap),.int a0.w.epoch,.int a0.fuel,.int a0.sends,.int a0.turns,.int a0.deep,.int a0.err,.own 1001,.own 1002] 109),(1001,.row 3 (List.map Z7 a0.sites) 23),(1002,.row 1 (List.map K6 a0.of) 3)] [.ptr 1000 0,.int a1,.int a2,.agg (eV a3),.sl 2 (List.map eV a4)] (.agg (eV r.1)) [(1000,.box [.sl 4 (List.map J4 r.2.w.classes),.sl 2 (List.map H6 r.2.w.heap),.int r.2.w.epoch,.int r.2.fuel,.int r.2.sends,.int r.2.turns,.int r.2.deep,.int r.2.err,.own 2,.own 3] 109),(2,.row 3 (List.map Z7 r.2.sites) 23),(1001,.gone),(3,.row 1 (List.map K6 r.2.of) 3),(1002,.gone)] [2,3]) (r:(V×TR)) (h:aJ3 N gR a0 a1 a2 a3 a4=some r):Spec Try.prog 88 [(1000,.box [.sl 4 (List.map J4 a0.w.classes),.sl 2 (List.map H6 a0.w.heap),.int a0.w.epoch,.int a0.fuel,.int a0.sends,.int a0.turns,.int a0.deep,.int a0.err,.own 1001,.own 1002] 109),(1001,.row 3 (List.map Z7 a0.sites) 23),(1002,.row 1 (List.map K6 a0.of) 3)] [.ptr 1000 0,.int a1,.agg (eMe a2),.agg (eV a3),.sl 2 (List.map eV a4)] (.agg (eV r.1)) [(1000,.box [.sl 4 (List.map J4 r.2.w.classes),.sl 2 (List.map H6 r.2.w.heap),.int r.2.w.epoch,.int r.2.fuel,.int r.2.sends,.int r.2.turns,.int r.2.deep,.int r.2.err,.own 2,.own 3] 109),(2,.row 3 (List.map Z7 r.2.sites) 23),(1001,.gone),(3,.row 1 (List.map K6 r.2.of) 3),(1002,.gone)] [2,3]:=by
 refine Spec.of C9 Try.func88 rfl Try.ntmps88 (by kernel_rfl) rfl rfl rfl fun Γ hn=>?_
 unfold aJ3 at h
 refine j5.reidB 1000 8 1001 320 rfl rfl rfl rfl rfl rfl rfl rfl rfl ?_
 refine j5.reidB 1000 9 1002 321 rfl rfl rfl rfl rfl rfl rfl rfl rfl ?_
 refine j6 hn ?_
 refine j6 hn ?_
 obtain ⟨hg1,h⟩:=D6 h
 refine mkM (enc:=eV) (x:=(⟨(0:Int),(0:Int)⟩:V)) hg1 (by repeat (first|exact trivial|exact rfl|(refine And.intro ?_ ?_))) ?_
 refine j6 hn ?_
 refine j6 hn ?_
 refine j6 hn ?_
 refine j5.seqQ fun _ A0 _ R0=>?_
 refine j5.nilrowB 12 0 501 2 39 rfl rfl rfl rfl rfl rfl ?_
 obtain ⟨o39,h40,h⟩:=j4 h
 refine jk (ι:={ s // o39=D5.next s }) hn (fun s=>[]) (fun s=>[(320,.row 3 (List.map Z7 s.1.2.2.2.2.2.2.2.2.1) 23),(321,.row 1 (List.map K6 s.1.2.2.2.2.2.2.2.2.2) 3),(1000,.box [.sl 4 (List.map J4 s.1.1),.sl 2 (List.map H6 s.1.2.1),.int s.1.2.2.1,.int s.1.2.2.2.1,.int s.1.2.2.2.2.1,.int s.1.2.2.2.2.2.1,.int s.1.2.2.2.2.2.2.1,.int s.1.2.2.2.2.2.2.2.1,.own 320,.own 321] 109)]) [(0,_),(10,_)] [(10,_),(1001,_),(1002,_)] (fun _ A1 _ R1=>?_) ?_
 ·refine j5.blkQ fun _ _ E2 _ R2=>?_
  refine lq (ι:={ q:(Nat×(List Cl)×(List Ob)×Int×Int×Int×Int×Int×Int×(List St)×(List Int)×(List V)×(List V)×Int) // G9 N gR a1 a2 a3 a4 q.1 q.2.1 q.2.2.1 q.2.2.2.1 q.2.2.2.2.1 q.2.2.2.2.2.1 q.2.2.2.2.2.2.1 q.2.2.2.2.2.2.2.1 q.2.2.2.2.2.2.2.2.1 q.2.2.2.2.2.2.2.2.2.1 q.2.2.2.2.2.2.2.2.2.2.1 q.2.2.2.2.2.2.2.2.2.2.2.1 q.2.2.2.2.2.2.2.2.2.2.2.2.1 q.2.2.2.2.2.2.2.2.2.2.2.2.2=some o39 }) hn (fun q=>[(14,.int q.1.2.2.2.2.2.2.2.2.2.2.2.2.2)]) (fun q=>[(27,.row 2 (List.map eV q.1.2.2.2.2.2.2.2.2.2.2.2.1) 39),(320,.row 3 (List.map Z7 q.1.2.2.2.2.2.2.2.2.2.1) 23),(321,.row 1 (List.map K6 q.1.2.2.2.2.2.2.2.2.2.2.1) 3),(501,.row 2 (List.map eV q.1.2.2.2.2.2.2.2.2.2.2.2.2.1) 39),(1000,.box [.sl 4 (List.map J4 q.1.2.1),.sl 2 (List.map H6 q.1.2.2.1),.int q.1.2.2.2.1,.int q.1.2.2.2.2.1,.int q.1.2.2.2.2.2.1,.int q.1.2.2.2.2.2.2.1,.int q.1.2.2.2.2.2.2.2.1,.int q.1.2.2.2.2.2.2.2.2.1,.own 320,.own 321] 109)]) (fun q=>q.1.1) [(0,_),(1,_),(4,_),(7,_),(8,_),(10,_),(11,_),(12,_),(13,_)] [(7,_),(8,_),(10,_),(12,_),(1001,_),(1002,_)] ⟨(N,a0.w.classes,a0.w.heap,a0.w.epoch,a0.fuel,a0.sends,a0.turns,a0.deep,a0.err,a0.sites,a0.of,(List.replicate a2.temps.toNat (⟨(0:Int),(0:Int)⟩:V)),([]:List V),(0:Int)),h40⟩ [] ?_
  rintro ⟨⟨n_,v3,v4,v5,v6,v7,v8,v9,v10,v11,v12,v13,v14,v15⟩,h40⟩ _ A3 X3 R3
  rcases n_ with _|n43
  ·rw [G9.eq_1] at h40
   cases h40
  ·replace h40:=(G9.eq_2 _ _ _ _ _ _ _ _ _ _ _ _ _ _ _ _ _ _ _ _).symm.trans h40
   refine j5.seqQ fun _ A4 X4 _=>?_
   refine j6 hn ?_
   refine l8 hn ?_
   refine l5 h40 (fun hb44 h40=>?_) (fun hb44 h40=>?_)
   ·refine p9 hn ?_
    refine A4 _ _ ?_
    refine j5.blkQ fun _ A5 _ _ R5=>?_
    refine j6 hn ?_
    obtain ⟨x45,hx46,h40⟩:=j4 h40
    refine N9 hx46 ?_
    refine kp [(0,_),(1,_),(4,_),(7,_),(8,_),(10,_),(11,_),(12,_),(13,_),(14,_),(15,_)] [(7,_),(8,_),(10,_),(12,_),(15,_),(27,_),(320,_),(321,_),(501,_),(1000,_),(1001,_),(1002,_)] ?_
    refine j6 hn ?_
    refine Or.inr ?_
    refine j5.seqQ fun _ A6 _ R6=>?_
    refine j6 hn ?_
    obtain ⟨o61,h60,h40⟩:=j4 h40
    refine jk (ι:={ s // o61=D5.next s }) hn (fun s=>[(16,.int s.1.2.2.2.2.2.2.2.2.2.2.2.2)]) (fun s=>[(12,.box [.own 48] 40),(27,.row 2 (List.map eV s.1.2.2.2.2.2.2.2.2.2.2.1) 39),(48,.row 2 (List.map eV s.1.2.2.2.2.2.2.2.2.2.2.2.1) 39),(320,.row 3 (List.map Z7 s.1.2.2.2.2.2.2.2.2.1) 23),(321,.row 1 (List.map K6 s.1.2.2.2.2.2.2.2.2.2.1) 3),(1000,.box [.sl 4 (List.map J4 s.1.1),.sl 2 (List.map H6 s.1.2.1),.int s.1.2.2.1,.int s.1.2.2.2.1,.int s.1.2.2.2.2.1,.int s.1.2.2.2.2.2.1,.int s.1.2.2.2.2.2.2.1,.int s.1.2.2.2.2.2.2.2.1,.own 320,.own 321] 109)]) [(0,_),(1,_),(4,_),(7,_),(8,_),(10,_),(11,_),(12,_),(13,_),(14,_)] [(7,_),(8,_),(10,_),(1001,_),(1002,_)] (fun _ A7 _ R7=>?_) ?_
    ·refine j5.blkQ fun _ A8 E8 _ R8=>?_
     refine j6 hn ?_
     refine l8 hn ?_
     refine l5 h60 (fun hb62 h60=>?_) (fun hb62 h60=>?_)
     ·refine kp [(0,_),(1,_),(4,_),(7,_),(8,_),(10,_),(11,_),(12,_),(13,_),(14,_),(16,_)] [(7,_),(8,_),(10,_),(12,_),(27,_),(320,_),(321,_),(501,_),(1000,_),(1001,_),(1002,_)] ?_
      refine q8 hn ?_
      refine Exists.intro (List.map eV [a3]) (And.intro (by repeat (first|exact trivial|exact rfl|(refine And.intro ?_ ?_))) ?_)
      obtain ⟨hg63,h60⟩:=D6 h60
      refine U3 (l2:=[a3]) hg63 (y7 _) ?_
      refine A8 _ _ ?_
      refine A7 _ _ ?_
      exact jn ⟨_,sj h60⟩ []
     refine kp [(0,_),(1,_),(4,_),(7,_),(8,_),(10,_),(11,_),(12,_),(13,_),(14,_),(15,_),(16,_),(42,_)] [(7,_),(8,_),(10,_),(12,_),(15,_),(27,_),(320,_),(321,_),(501,_),(1000,_),(1001,_),(1002,_)] ?_
     refine j6 hn ?_
     refine l8 hn ?_
     refine l5 h60 (fun hb64 h60=>?_) (fun hb64 h60=>?_)
     ·refine J7 hn (by kernel_rfl) ?_
      obtain ⟨x65,hx66,h60⟩:=j4 h60
      refine N9 hx66 ?_
      refine Exists.intro (List.map eV [x65]) (And.intro (by repeat (first|exact trivial|exact rfl|(refine And.intro ?_ ?_))) ?_)
      obtain ⟨hg67,h60⟩:=D6 h60
      refine U3 (l2:=[x65]) hg67 (y7 _) ?_
      refine A8 _ _ ?_
      refine A7 _ _ ?_
      exact jn ⟨_,sj h60⟩ [(48,58)]
     refine j6 hn ?_
     refine l8 hn ?_
     refine l5 h60 (fun hb68 h60=>?_) (fun hb68 h60=>?_)
     ·refine kp [(0,_),(1,_),(4,_),(7,_),(8,_),(10,_),(11,_),(12,_),(13,_),(14,_),(15,_),(16,_)] [(7,_),(8,_),(10,_),(12,_),(15,_),(27,_),(320,_),(321,_),(501,_),(1000,_),(1001,_),(1002,_)] ?_
      refine J7 hn (by kernel_rfl) ?_
      obtain ⟨x69,hx70,h60⟩:=j4 h60
      refine Y3 hx70 ?_
      refine V5 (y9 hx70).2 ?_
      refine Exists.intro (List.map eV [x69]) (And.intro (by repeat (first|exact trivial|exact rfl|(refine And.intro ?_ ?_))) ?_)
      obtain ⟨hg71,h60⟩:=D6 h60
      refine U3 (l2:=[x69]) hg71 (y7 _) ?_
      refine A8 _ _ ?_
      refine A7 _ _ ?_
      exact jn ⟨_,sj h60⟩ [(48,68)]
     refine kp [(0,_),(1,_),(4,_),(7,_),(8,_),(10,_),(11,_),(12,_),(13,_),(14,_),(15,_),(16,_),(42,_)] [(7,_),(8,_),(10,_),(12,_),(15,_),(27,_),(320,_),(321,_),(501,_),(1000,_),(1001,_),(1002,_)] ?_
     refine j6 hn ?_
     refine l8 hn ?_
     refine l5 h60 (fun hb72 h60=>?_) (fun hb72 h60=>?_)
     ·refine J7 hn (by kernel_rfl) ?_
      obtain ⟨r73,hr74,h60⟩:=j4 h60
      show l7 Try.prog _ _ _ _
      refine cA (b62 N v4 a3 x45.a r73 hr74) ?_
      refine Exists.intro (List.map eV [r73]) (And.intro (by repeat (first|exact trivial|exact rfl|(refine And.intro ?_ ?_))) ?_)
      obtain ⟨hg75,h60⟩:=D6 h60
      refine U3 (l2:=[r73]) hg75 (y7 _) ?_
      refine A8 _ _ ?_
      refine A7 _ _ ?_
      exact jn ⟨_,sj h60⟩ [(48,82)]
     refine j6 hn ?_
     refine l8 hn ?_
     refine l5 h60 (fun hb76 h60=>?_) (fun hb76 h60=>?_)
     ·refine kp [(0,_),(1,_),(4,_),(7,_),(8,_),(10,_),(11,_),(12,_),(13,_),(14,_),(15,_),(16,_)] [(7,_),(8,_),(10,_),(12,_),(15,_),(27,_),(320,_),(321,_),(501,_),(1000,_),(1001,_),(1002,_)] ?_
      refine q8 hn ?_
      refine Exists.intro (List.map eV [(⟨(3:Int),x45.a⟩:V)]) (And.intro (by repeat (first|exact trivial|exact rfl|(refine And.intro ?_ ?_))) ?_)
      obtain ⟨hg77,h60⟩:=D6 h60
      refine U3 (l2:=[(⟨(3:Int),x45.a⟩:V)]) hg77 (y7 _) ?_
      refine A8 _ _ ?_
      refine A7 _ _ ?_
      exact jn ⟨_,sj h60⟩ [(48,90)]
     refine kp [(0,_),(1,_),(4,_),(7,_),(8,_),(10,_),(11,_),(12,_),(13,_),(14,_),(15,_),(16,_),(42,_)] [(7,_),(8,_),(10,_),(12,_),(15,_),(27,_),(320,_),(321,_),(501,_),(1000,_),(1001,_),(1002,_)] ?_
     refine j6 hn ?_
     refine l8 hn ?_
     refine l5 h60 (fun hb78 h60=>?_) (fun hb78 h60=>?_)
     ·refine q8 hn ?_
      refine Exists.intro (List.map eV [(⟨(0:Int),(0:Int)⟩:V)]) (And.intro (by repeat (first|exact trivial|exact rfl|(refine And.intro ?_ ?_))) ?_)
      obtain ⟨hg79,h60⟩:=D6 h60
      refine U3 (l2:=[(⟨(0:Int),(0:Int)⟩:V)]) hg79 (y7 _) ?_
      refine A8 _ _ ?_
      refine A7 _ _ ?_
      exact jn ⟨_,sj h60⟩ [(48,96)]
     refine j6 hn ?_
     refine l8 hn ?_
     refine l5 h60 (fun hb80 h60=>?_) (fun hb80 h60=>?_)
     ·refine kp [(0,_),(1,_),(4,_),(7,_),(8,_),(10,_),(11,_),(12,_),(13,_),(14,_),(16,_)] [(7,_),(8,_),(10,_),(12,_),(27,_),(320,_),(321,_),(501,_),(1000,_),(1001,_),(1002,_)] ?_
      refine J7 hn (by kernel_rfl) ?_
      obtain ⟨r81,hr82,h60⟩:=j4 h60
      show l7 Try.prog _ _ _ _
      refine cA (aR6 N false r81 hr82) ?_
      refine Exists.intro (List.map eV [r81]) (And.intro (by repeat (first|exact trivial|exact rfl|(refine And.intro ?_ ?_))) ?_)
      obtain ⟨hg83,h60⟩:=D6 h60
      refine U3 (l2:=[r81]) hg83 (y7 _) ?_
      refine A8 _ _ ?_
      refine A7 _ _ ?_
      exact jn ⟨_,sj h60⟩ [(48,102)]
     refine kp [(0,_),(1,_),(4,_),(7,_),(8,_),(10,_),(11,_),(12,_),(13,_),(14,_),(15,_),(16,_),(42,_)] [(7,_),(8,_),(10,_),(12,_),(15,_),(27,_),(320,_),(321,_),(501,_),(1000,_),(1001,_),(1002,_)] ?_
     refine j6 hn ?_
     refine l8 hn ?_
     refine l5 h60 (fun hb84 h60=>?_) (fun hb84 h60=>?_)
     ·refine J7 hn (by kernel_rfl) ?_
      obtain ⟨r85,hr86,h60⟩:=j4 h60
      show l7 Try.prog _ _ _ _
      refine cA (aR6 N true r85 hr86) ?_
      refine Exists.intro (List.map eV [r85]) (And.intro (by repeat (first|exact trivial|exact rfl|(refine And.intro ?_ ?_))) ?_)
      obtain ⟨hg87,h60⟩:=D6 h60
      refine U3 (l2:=[r85]) hg87 (y7 _) ?_
      refine A8 _ _ ?_
      refine A7 _ _ ?_
      exact jn ⟨_,sj h60⟩ [(48,108)]
     refine j6 hn ?_
     refine l8 hn ?_
     refine l5 h60 (fun hb88 h60=>?_) (fun hb88 h60=>?_)
     ·refine kp [(0,_),(1,_),(4,_),(7,_),(8,_),(10,_),(11,_),(12,_),(13,_),(14,_),(16,_)] [(7,_),(8,_),(10,_),(12,_),(27,_),(320,_),(321,_),(501,_),(1000,_),(1001,_),(1002,_)] ?_
      refine q8 hn ?_
      obtain ⟨r89,hr90,h60⟩:=j4 h60
      show l7 Try.prog _ _ _ _
      refine cA ((((aA6 N v14 r89 hr90).sw 1000 12).sw 1001 501).sw 2 502) ?_
      refine A8 _ _ ?_
      refine A7 _ _ ?_
      exact jn ⟨_,sj h60⟩ [(48,502)]
     refine kp [(0,_),(1,_),(4,_),(7,_),(8,_),(10,_),(11,_),(12,_),(13,_),(14,_),(15,_),(16,_),(42,_)] [(7,_),(8,_),(10,_),(12,_),(15,_),(27,_),(320,_),(321,_),(501,_),(1000,_),(1001,_),(1002,_)] ?_
     refine j6 hn ?_
     refine l8 hn ?_
     refine l5 h60 (fun hb91 h60=>?_) (fun hb91 h60=>?_)
     ·refine j6 hn ?_
      obtain ⟨r92,hr93,h60⟩:=j4 h60
      show l7 Try.prog _ _ _ _
      refine cA ((((aA6 N v14 r92 hr93).sw 1000 12).sw 1001 501).sw 2 503) ?_
      refine kp [(0,_),(1,_),(4,_),(7,_),(8,_),(10,_),(11,_),(12,_),(13,_),(14,_),(16,_),(17,_)] [(7,_),(8,_),(10,_),(12,_),(17,_),(27,_),(320,_),(321,_),(503,_),(1000,_),(1001,_),(1002,_)] ?_
      refine q8 hn ?_
      refine Exists.intro (List.map eV [r92.1,r92.1]) (And.intro (by repeat (first|exact trivial|exact rfl|(refine And.intro ?_ ?_))) ?_)
      obtain ⟨hg94,h60⟩:=D6 h60
      refine U3 (l2:=[r92.1,r92.1]) hg94 (y7 _) ?_
      refine A8 _ _ ?_
      refine A7 _ _ ?_
      exact jn ⟨_,sj h60⟩ [(48,121)]
     refine j6 hn ?_
     refine l8 hn ?_
     refine l5 h60 (fun hb95 h60=>?_) (fun hb95 h60=>?_)
     ·refine kp [(0,_),(1,_),(4,_),(7,_),(8,_),(10,_),(11,_),(12,_),(13,_),(14,_),(15,_),(16,_)] [(7,_),(8,_),(10,_),(12,_),(15,_),(27,_),(320,_),(321,_),(501,_),(1000,_),(1001,_),(1002,_)] ?_
      refine J7 hn (by kernel_rfl) ?_
      obtain ⟨r96,hr97,h60⟩:=j4 h60
      show l7 Try.prog _ _ _ _
      refine cA ((((aA6 N v14 r96 hr97).sw 1000 12).sw 1001 501).sw 2 504) ?_
      obtain ⟨x98,hx99,h60⟩:=j4 h60
      refine Y3 hx99 ?_
      refine V5 (y9 hx99).2 ?_
      refine Exists.intro (List.map eV (v13.set x45.a.toNat r96.1)) (And.intro (aM9 (y9 hx99).2 (by repeat (first|exact trivial|exact rfl|(refine And.intro ?_ ?_)))) ?_)
      refine A8 _ _ ?_
      refine A7 _ _ ?_
      exact jn ⟨_,sj h60⟩ [(48,504)]
     refine kp [(0,_),(1,_),(4,_),(7,_),(8,_),(10,_),(11,_),(12,_),(13,_),(14,_),(15,_),(16,_),(42,_)] [(7,_),(8,_),(10,_),(12,_),(15,_),(27,_),(320,_),(321,_),(501,_),(1000,_),(1001,_),(1002,_)] ?_
     refine j6 hn ?_
     refine l8 hn ?_
     refine l5 h60 (fun hb100 h60=>?_) (fun hb100 h60=>?_)
     ·refine J7 hn (by kernel_rfl) ?_
      obtain ⟨r101,hr102,h60⟩:=j4 h60
      show l7 Try.prog _ _ _ _
      refine cA ((((aA6 N v14 r101 hr102).sw 1000 12).sw 1001 501).sw 2 505) ?_
      obtain ⟨r103,hr104,h60⟩:=j4 h60
      show l7 Try.prog _ _ _ _
      refine cA ((b09 N (⟨(⟨v3,v4,v5⟩:Wd),v6,v7,v8,v9,v10,v11,v12⟩:TR) a3 x45.a r101.1 r103 hr104).swl [(1001,320),(1002,321),(2,506),(3,507)] rfl) ?_
      refine A8 _ _ ?_
      refine A7 _ _ ?_
      exact jn ⟨_,sj h60⟩ [(320,506),(321,507),(48,505)]
     refine j6 hn ?_
     refine l8 hn ?_
     refine l5 h60 (fun hb105 h60=>?_) (fun hb105 h60=>?_)
     ·refine j5.seqQ fun _ A9 X9 _=>?_
      refine kp [(0,_),(1,_),(4,_),(7,_),(8,_),(10,_),(11,_),(12,_),(13,_),(14,_),(15,_),(16,_)] [(7,_),(8,_),(10,_),(12,_),(15,_),(27,_),(320,_),(321,_),(501,_),(1000,_),(1001,_),(1002,_)] ?_
      refine j6 hn ?_
      refine z8 (fun _=>?_)
      refine l8 hn ?_
      refine l5 h60 (fun hb107 h60=>?_) (fun hb107 h60=>?_)
      ·refine kp [(0,_),(1,_),(4,_),(7,_),(8,_),(10,_),(11,_),(12,_),(13,_),(14,_),(16,_)] [(7,_),(8,_),(10,_),(12,_),(27,_),(320,_),(321,_),(501,_),(1000,_),(1001,_),(1002,_)] ?_
       refine j6 hn ?_
       refine F7 hn ?_
       refine X9 _ _ _ ?_
       refine E8 _ _ ?_
       refine A7 _ _ ?_
       exact jn ⟨_,sj h60⟩ [(48,501)]
      refine p9 hn ?_
      refine A9 _ _ ?_
      refine j5.seqQ fun _ A10 _ _=>?_
      refine kp [(0,_),(1,_),(4,_),(7,_),(8,_),(10,_),(11,_),(12,_),(13,_),(14,_),(15,_),(16,_)] [(7,_),(8,_),(10,_),(12,_),(15,_),(27,_),(320,_),(321,_),(501,_),(1000,_),(1001,_),(1002,_)] ?_
      refine J7 hn (by kernel_rfl) ?_
      refine z8 (fun _=>?_)
      refine Exists.intro (List.map eV [(⟨(4:Int),(v4.length:Int)⟩:V)]) (And.intro (by repeat (first|exact trivial|exact rfl|(refine And.intro ?_ ?_))) ?_)
      obtain ⟨hg109,h60⟩:=D6 h60
      refine U3 (l2:=[(⟨(4:Int),(v4.length:Int)⟩:V)]) hg109 (y7 _) ?_
      refine A10 _ _ ?_
      refine kp [(0,_),(1,_),(4,_),(7,_),(8,_),(10,_),(11,_),(12,_),(13,_),(14,_),(15,_),(16,_)] [(7,_),(8,_),(10,_),(12,_),(15,_),(27,_),(160,_),(320,_),(321,_),(1000,_),(1001,_),(1002,_)] ?_
      refine J7 hn (by kernel_rfl) ?_
      refine Or.inr ?_
      refine Exists.intro (List.map H6 ([]:List Ob)) (And.intro (by repeat (first|exact trivial|exact rfl|(refine And.intro ?_ ?_))) ?_)
      obtain ⟨hg110,h60⟩:=D6 h60
      refine U3 (l2:=v4) hg110 (y7 _) ?_
      obtain ⟨r111,hr112,h60⟩:=j4 h60
      show l7 Try.prog _ _ _ _
      refine cA (aE8 N (⟨v3,v4,v5⟩:Wd) x45.a r111 hr112) ?_
      obtain ⟨hg113,h60⟩:=D6 h60
      refine mkM (enc:=eV) (x:=(⟨(0:Int),(0:Int)⟩:V)) hg113 (by repeat (first|exact trivial|exact rfl|(refine And.intro ?_ ?_))) ?_
      refine Or.inr ?_
      refine Exists.intro (List.map H6 [(⟨x45.a,(List.replicate r111.toNat (⟨(0:Int),(0:Int)⟩:V))⟩:Ob)]) (And.intro (by repeat (first|exact trivial|exact rfl|(refine And.intro ?_ ?_))) ?_)
      obtain ⟨hg114,h60⟩:=D6 h60
      refine U3 (l2:=[(⟨x45.a,(List.replicate r111.toNat (⟨(0:Int),(0:Int)⟩:V))⟩:Ob)]) hg114 (y7 _) ?_
      refine A8 _ _ ?_
      refine A7 _ _ ?_
      refine G6.fzAll 181 rfl ?_
      exact jn ⟨_,sj h60⟩ [(48,160)]
     refine kp [(0,_),(1,_),(4,_),(7,_),(8,_),(10,_),(11,_),(12,_),(13,_),(14,_),(15,_),(16,_),(42,_)] [(7,_),(8,_),(10,_),(12,_),(15,_),(27,_),(320,_),(321,_),(501,_),(1000,_),(1001,_),(1002,_)] ?_
     refine j6 hn ?_
     refine l8 hn ?_
     refine l5 h60 (fun hb115 h60=>?_) (fun hb115 h60=>?_)
     ·refine j6 hn ?_
      refine z8 (fun _=>?_)
      refine Or.inr ?_
      refine j5.seqQ fun _ A11 _ _=>?_
      refine kp [(0,_),(1,_),(4,_),(7,_),(8,_),(10,_),(11,_),(12,_),(13,_),(14,_),(15,_),(16,_),(18,_)] [(7,_),(8,_),(10,_),(12,_),(15,_),(27,_),(320,_),(321,_),(501,_),(1000,_),(1001,_),(1002,_)] ?_
      refine J7 hn (by kernel_rfl) ?_
      refine Exists.intro (List.map eV ([]:List V)) (And.intro (by repeat (first|exact trivial|exact rfl|(refine And.intro ?_ ?_))) ?_)
      obtain ⟨hg117,h60⟩:=D6 h60
      refine dF6 hg117 rfl rfl ?_
      obtain ⟨hg118,h60⟩:=D6 h60
      refine U3 (l2:=(v14.drop ((wr ((v14.length:Int) - x45.a)).toNat))) hg118 (cY1 _ _) ?_
      refine Or.inr ?_
      obtain ⟨x119,hx120,h60⟩:=j4 h60
      refine Y3 hx120 ?_
      refine V5 (y9 hx120).2 ?_
      refine A11 _ _ ?_
      refine kp [(0,_),(1,_),(4,_),(7,_),(8,_),(10,_),(11,_),(12,_),(13,_),(14,_),(15,_),(16,_),(18,_),(19,_),(20,_)] [(7,_),(8,_),(10,_),(12,_),(15,_),(20,_),(27,_),(196,_),(320,_),(321,_),(501,_),(1000,_),(1001,_),(1002,_)] ?_
      refine j6 hn ?_
      refine Or.inr ?_
      obtain ⟨hg121,h60⟩:=D6 h60
      refine bH2 hg121 rfl rfl ?_
      refine j5.seqQ fun _ A12 _ _=>?_
      refine kp [(0,_),(1,_),(4,_),(7,_),(8,_),(10,_),(11,_),(12,_),(13,_),(14,_),(15,_),(16,_),(19,_),(20,_)] [(7,_),(8,_),(10,_),(12,_),(15,_),(20,_),(27,_),(196,_),(205,_),(320,_),(321,_),(1000,_),(1001,_),(1002,_)] ?_
      refine J7 hn (by kernel_rfl) ?_
      obtain ⟨r122,hr123,h60⟩:=j4 h60
      show l7 Try.prog _ _ _ _
      refine cA (bH5 N v4 x119 r122 hr123) ?_
      refine A12 _ _ ?_
      refine j5.seqQ fun _ A13 _ _=>?_
      refine kp [(0,_),(1,_),(4,_),(7,_),(8,_),(10,_),(11,_),(12,_),(13,_),(14,_),(15,_),(16,_),(19,_),(20,_),(21,_)] [(7,_),(8,_),(10,_),(12,_),(15,_),(20,_),(27,_),(196,_),(205,_),(320,_),(321,_),(1000,_),(1001,_),(1002,_)] ?_
      refine J7 hn (by kernel_rfl) ?_
      refine Exists.intro (List.map Z7 [(⟨a1,a2.name,v15⟩:St)]) (And.intro (by repeat (first|exact trivial|exact rfl|(refine And.intro ?_ ?_))) ?_)
      obtain ⟨hg124,h60⟩:=D6 h60
      refine U3 (l2:=[(⟨a1,a2.name,v15⟩:St)]) hg124 (y7 _) ?_
      refine Exists.intro (List.map K6 [r122]) (And.intro (by repeat (first|exact trivial|exact rfl|(refine And.intro ?_ ?_))) ?_)
      obtain ⟨hg125,h60⟩:=D6 h60
      refine U3 (l2:=[r122]) hg125 (y7 _) ?_
      refine A13 _ _ ?_
      refine j5.seqQ fun _ A14 _ _=>?_
      refine kp [(0,_),(1,_),(4,_),(7,_),(8,_),(10,_),(11,_),(12,_),(13,_),(14,_),(15,_),(16,_),(19,_),(20,_),(21,_)] [(7,_),(8,_),(10,_),(12,_),(15,_),(20,_),(27,_),(196,_),(205,_),(225,_),(232,_),(1000,_),(1001,_),(1002,_)] ?_
      refine J7 hn (by kernel_rfl) ?_
      obtain ⟨r126,hr127,h60⟩:=j4 h60
      show l7 Try.prog _ _ _ _
      refine cA (bL3 N (⟨v3,v4,v5⟩:Wd) r122 x45.name r126 hr127) ?_
      refine A14 _ _ ?_
      refine j5.seqQ fun _ A15 X15 _=>?_
      refine kp [(0,_),(1,_),(4,_),(7,_),(8,_),(10,_),(11,_),(12,_),(13,_),(14,_),(16,_),(19,_),(20,_),(22,_),(23,_)] [(7,_),(8,_),(10,_),(12,_),(20,_),(27,_),(196,_),(205,_),(225,_),(232,_),(1000,_),(1001,_),(1002,_)] ?_
      refine j6 hn ?_
      refine l8 hn ?_
      refine l5 h60 (fun hb128 h60=>?_) (fun hb128 h60=>?_)
      ·refine kp [(0,_),(1,_),(4,_),(7,_),(8,_),(10,_),(11,_),(12,_),(13,_),(14,_),(16,_)] [(7,_),(8,_),(10,_),(12,_),(27,_),(205,_),(225,_),(232,_),(1000,_),(1001,_),(1002,_)] ?_
       refine j6 hn ?_
       refine F7 hn ?_
       refine X15 _ _ _ ?_
       refine E8 _ _ ?_
       refine A7 _ _ ?_
       exact jn ⟨_,sj h60⟩ [(320,225),(321,232),(48,205)]
      refine p9 hn ?_
      refine A15 _ _ ?_
      refine kp [(0,_),(1,_),(4,_),(7,_),(8,_),(10,_),(11,_),(12,_),(13,_),(14,_),(16,_),(19,_),(20,_),(22,_),(23,_)] [(7,_),(8,_),(10,_),(12,_),(20,_),(27,_),(196,_),(205,_),(225,_),(232,_),(1000,_),(1001,_),(1002,_)] ?_
      refine J7 hn (by kernel_rfl) ?_
      obtain ⟨r129,hr130,h60⟩:=j4 h60
      show l7 Try.prog _ _ _ _
      refine cF ((hgR N (⟨(⟨v3,v4,v5⟩:Wd),v6,v7,v8,v9,v10,(v11++[(⟨a1,a2.name,v15⟩:St)]),(v12++[r122])⟩:TR) r126.1 r126.2 x119 (([]:List V)++(v14.drop ((wr ((v14.length:Int) - x45.a)).toNat))) r129 hr130).swl [(1001,225),(1002,232),(2,508),(3,509)] rfl) ?_
      refine Exists.intro (List.map eV [r129.1]) (And.intro (by repeat (first|exact trivial|exact rfl|(refine And.intro ?_ ?_))) ?_)
      obtain ⟨hg131,h60⟩:=D6 h60
      refine U3 (l2:=[r129.1]) hg131 (y7 _) ?_
      refine A8 _ _ ?_
      refine A7 _ _ ?_
      exact jn ⟨_,sj h60⟩ [(320,508),(321,509),(48,261)]
     refine j6 hn ?_
     obtain ⟨o136,h135,h60⟩:=j4 h60
     refine jk (ι:={ s // o136=D5.next s }) hn (fun s=>[(16,.int s.1.2.2)]) (fun s=>[(501,.row 2 (List.map eV s.1.2.1) 39),(1000,.box [.sl 4 (List.map J4 v3),.sl 2 (List.map H6 v4),.int v5,.int v6,.int v7,.int v8,.int v9,.int s.1.1,.own 320,.own 321] 109)]) [(0,_),(1,_),(4,_),(7,_),(8,_),(10,_),(11,_),(12,_),(13,_),(14,_)] [(7,_),(8,_),(10,_),(12,_),(27,_),(320,_),(321,_),(1001,_),(1002,_)] (fun _ A16 _ R16=>?_) ?_
     ·refine l8 hn ?_
      refine l5 h135 (fun hb137 h135=>?_) (fun hb137 h135=>?_)
      ·refine kp [(0,_),(1,_),(4,_),(7,_),(8,_),(10,_),(11,_),(12,_),(13,_),(14,_),(15,_)] [(7,_),(8,_),(10,_),(12,_),(15,_),(27,_),(320,_),(321,_),(501,_),(1000,_),(1001,_),(1002,_)] ?_
       refine q8 hn ?_
       refine A16 _ _ ?_
       exact jn ⟨_,sj h135⟩ []
      refine kp [(0,_),(1,_),(4,_),(7,_),(8,_),(10,_),(11,_),(12,_),(13,_),(14,_),(15,_),(16,_),(42,_)] [(7,_),(8,_),(10,_),(12,_),(15,_),(27,_),(320,_),(321,_),(501,_),(1000,_),(1001,_),(1002,_)] ?_
      refine j6 hn ?_
      obtain ⟨o142,h141,h135⟩:=j4 h135
      refine jk (ι:={ s // o142=D5.next s }) hn (fun s=>[(16,.int s.1.2.2)]) (fun s=>[(12,.box [.own 510] 40),(510,.row 2 (List.map eV s.1.2.1) 39),(1000,.box [.sl 4 (List.map J4 v3),.sl 2 (List.map H6 v4),.int v5,.int v6,.int v7,.int v8,.int v9,.int s.1.1,.own 320,.own 321] 109)]) [(0,_),(1,_),(4,_),(7,_),(8,_),(10,_),(11,_),(12,_),(13,_),(14,_)] [(7,_),(8,_),(10,_),(27,_),(320,_),(321,_),(1001,_),(1002,_)] (fun _ A17 _ R17=>?_) ?_
      ·refine l8 hn ?_
       refine l5 h141 (fun hb143 h141=>?_) (fun hb143 h141=>?_)
       ·refine j6 hn ?_
        obtain ⟨r144,hr145,h141⟩:=j4 h141
        show l7 Try.prog _ _ _ _
        refine cA ((((aA6 N v14 r144 hr145).sw 1000 12).sw 1001 501).sw 2 510) ?_
        refine kp [(0,_),(1,_),(4,_),(7,_),(8,_),(10,_),(11,_),(12,_),(13,_),(14,_),(15,_),(16,_),(24,_)] [(7,_),(8,_),(10,_),(12,_),(15,_),(24,_),(27,_),(320,_),(321,_),(510,_),(1000,_),(1001,_),(1002,_)] ?_
        refine j6 hn ?_
        obtain ⟨o149,h148,h141⟩:=j4 h141
        refine jk (ι:={ s // o149=s }) hn (fun s=>[(16,.int s.1.2)]) (fun s=>[(1000,.box [.sl 4 (List.map J4 v3),.sl 2 (List.map H6 v4),.int v5,.int v6,.int v7,.int v8,.int v9,.int s.1.1,.own 320,.own 321] 109)]) [(0,_),(1,_),(4,_),(7,_),(8,_),(10,_),(11,_),(12,_),(13,_),(14,_)] [(7,_),(8,_),(10,_),(12,_),(27,_),(320,_),(321,_),(510,_),(1001,_),(1002,_)] (fun _ A18 _ _=>?_) ?_
        ·refine l8 hn ?_
         refine l5 h148 (fun hb150 h148=>?_) (fun hb150 h148=>?_)
         ·refine q8 hn ?_
          refine A18 _ _ ?_
          exact jn ⟨_,sj h148⟩ []
         refine j6 hn ?_
         obtain ⟨o153,h152,h148⟩:=j4 h148
         refine jk (ι:={ s // o153=s }) hn (fun s=>[]) (fun s=>[(1000,.box [.sl 4 (List.map J4 v3),.sl 2 (List.map H6 v4),.int v5,.int v6,.int v7,.int v8,.int v9,.int s.1,.own 320,.own 321] 109)]) [(0,_),(1,_),(4,_),(7,_),(8,_),(10,_),(11,_),(12,_),(13,_),(14,_),(16,_)] [(7,_),(8,_),(10,_),(12,_),(27,_),(320,_),(321,_),(510,_),(1001,_),(1002,_)] (fun _ A19 _ _=>?_) ?_
         ·refine l8 hn ?_
          refine l5 h152 (fun hb154 h152=>?_) (fun hb154 h152=>?_)
          ·refine kp [(0,_),(1,_),(4,_),(7,_),(8,_),(10,_),(11,_),(12,_),(13,_),(14,_),(16,_)] [(7,_),(8,_),(10,_),(12,_),(27,_),(320,_),(321,_),(510,_),(1000,_),(1001,_),(1002,_)] ?_
           refine q8 hn ?_
           refine A19 _ _ ?_
           exact jn ⟨_,sj h152⟩ []
          refine p9 hn ?_
          refine A19 _ _ ?_
          exact jn ⟨_,sj h152⟩ []
         rintro ⟨v151,hv_⟩
         replace hv_:=hv_.symm
         subst hv_
         refine A18 _ _ ?_
         exact jn ⟨_,sj h148⟩ []
        rintro ⟨⟨v146,v147⟩,rfl⟩
        refine A17 _ _ ?_
        exact jn ⟨_,sj h141⟩ []
       refine j6 hn ?_
       refine l8 hn ?_
       refine l5 h141 (fun hb155 h141=>?_) (fun hb155 h141=>?_)
       ·refine kp [(0,_),(10,_),(13,_)] [(10,_),(12,_),(320,_),(321,_),(501,_),(1000,_),(1001,_),(1002,_)] ?_
        refine j6 hn ?_
        obtain ⟨r156,hr157,h141⟩:=j4 h141
        show l7 Try.prog _ _ _ _
        refine cA ((((aA6 N v14 r156 hr157).sw 1000 12).sw 1001 501).sw 2 511) ?_
        refine got hn ?_
        refine R17 _ _ ?_
        refine R16 _ _ ?_
        refine R8 _ _ ?_
        refine R7 _ _ ?_
        refine R6 _ _ ?_
        refine R5 _ _ ?_
        refine R3 _ _ ?_
        refine R2 _ _ ?_
        refine R1 _ _ ?_
        refine R0 _ _ ?_
        obtain rfl:=Option.some.inj h141
        obtain rfl:=Option.some.inj h135
        obtain rfl:=Option.some.inj h60
        obtain rfl:=Option.some.inj h40
        obtain rfl:=Option.some.inj h
        exact ⟨[(2,320),(3,321)],_,fm⟩
       refine p9 hn ?_
       refine A17 _ _ ?_
       exact jn ⟨_,sj h141⟩ [(510,501)]
      rintro ⟨⟨v138,v139,v140⟩,rfl⟩
      refine A16 _ _ ?_
      exact jn ⟨_,sj h135⟩ [(501,510)]
     rintro ⟨⟨v132,v133,v134⟩,rfl⟩
     refine A8 _ _ ?_
     refine A7 _ _ ?_
     exact jn ⟨_,sj h60⟩ [(48,501)]
    rintro ⟨⟨v47,v48,v49,v50,v51,v52,v53,v54,v55,v56,v57,v58,v59⟩,rfl⟩
    refine A6 _ _ ?_
    refine j5.seqQ fun _ A20 _ _=>?_
    refine j6 hn ?_
    obtain ⟨o161,h160,h40⟩:=j4 h40
    refine jk (ι:={ s // o161=s }) hn (fun s=>[]) (fun s=>[(1000,.box [.sl 4 (List.map J4 v47),.sl 2 (List.map H6 v48),.int v49,.int v50,.int v51,.int s.1.1,.int v53,.int s.1.2,.own 320,.own 321] 109)]) [(0,_),(1,_),(4,_),(7,_),(8,_),(10,_),(11,_),(12,_),(13,_),(16,_)] [(7,_),(8,_),(10,_),(12,_),(27,_),(48,_),(320,_),(321,_),(1001,_),(1002,_)] (fun _ A21 _ _=>?_) ?_
    ·refine l8 hn ?_
     refine l5 h160 (fun hb162 h160=>?_) (fun hb162 h160=>?_)
     ·refine j6 hn ?_
      refine Or.inr ?_
      refine kp [(0,_),(1,_),(4,_),(7,_),(8,_),(10,_),(11,_),(12,_),(13,_),(16,_)] [(7,_),(8,_),(10,_),(12,_),(27,_),(48,_),(320,_),(321,_),(1000,_),(1001,_),(1002,_)] ?_
      refine j6 hn ?_
      obtain ⟨o165,h164,h160⟩:=j4 h160
      refine jk (ι:={ s // o165=s }) hn (fun s=>[]) (fun s=>[(1000,.box [.sl 4 (List.map J4 v47),.sl 2 (List.map H6 v48),.int v49,.int v50,.int v51,.int (wr (v52+(1:Int))),.int v53,.int s.1,.own 320,.own 321] 109)]) [(0,_),(1,_),(4,_),(7,_),(8,_),(10,_),(11,_),(12,_),(13,_),(16,_)] [(7,_),(8,_),(10,_),(12,_),(27,_),(48,_),(320,_),(321,_),(1001,_),(1002,_)] (fun _ A22 _ _=>?_) ?_
      ·refine l8 hn ?_
       refine l5 h164 (fun hb166 h164=>?_) (fun hb166 h164=>?_)
       ·refine q8 hn ?_
        refine A22 _ _ ?_
        exact jn ⟨_,sj h164⟩ []
       refine p9 hn ?_
       refine A22 _ _ ?_
       exact jn ⟨_,sj h164⟩ []
      rintro ⟨v163,hv_⟩
      replace hv_:=hv_.symm
      subst hv_
      refine A21 _ _ ?_
      exact jn ⟨_,sj h160⟩ []
     refine p9 hn ?_
     refine A21 _ _ ?_
     exact jn ⟨_,sj h160⟩ []
    rintro ⟨⟨v158,v159⟩,rfl⟩
    refine A20 _ _ ?_
    refine q8 hn ?_
    refine A5 _ _ ?_
    refine A3 _ _ ?_
    exact jn ⟨(n43,v47,v48,v49,v50,v51,v158,v53,v159,v55,v56,v57,v58,v59),h40⟩ [(501,48)] (by show n43 < n43+1; omega)
   refine F7 hn ?_
   refine X4 _ _ _ ?_
   refine X3 _ _ _ ?_
   refine E2 _ _ ?_
   refine A1 _ _ ?_
   exact jn ⟨_,sj h40⟩ []
 rintro ⟨⟨v29,v30,v31,v32,v33,v34,v35,v36,v37,v38⟩,rfl⟩
 refine A0 _ _ ?_
 refine j6 hn ?_
 refine got hn ?_
 obtain rfl:=Option.some.inj h
 exact ⟨[(2,320),(3,321)],_,fm⟩

/- (*qcref5.R).Enter! -/
set_option maxRecDepth 100000 in
theorem bR8 (N n:Nat) (a0:TR) (a1:Int) (a2:Int) (a3:V) (a4:(List V)) (r:(V×TR)) (h:J8 N n a0 a1 a2 a3 a4=some r):Spec Try.prog 60 [(1000,.box [.sl 4 (List.map J4 a0.w.classes),.sl 2 (List.map H6 a0.w.heap),.int a0.w.epoch,.int a0.fuel,.int a0.sends,.int a0.turns,.int a0.deep,.int a0.err,.own 1001,.own 1002] 109),(1001,.row 3 (List.map Z7 a0.sites) 23),(1002,.row 1 (List.map K6 a0.of) 3)] [.ptr 1000 0,.int a1,.int a2,.agg (eV a3),.sl 2 (List.map eV a4)] (.agg (eV r.1)) [(1000,.box [.sl 4 (List.map J4 r.2.w.classes),.sl 2 (List.map H6 r.2.w.heap),.int r.2.w.epoch,.int r.2.fuel,.int r.2.sends,.int r.2.turns,.int r.2.deep,.int r.2.err,.own 2,.own 3] 109),(2,.row 3 (List.map Z7 r.2.sites) 23),(1001,.gone),(3,.row 1 (List.map K6 r.2.of) 3),(1002,.gone)] [2,3]:=by
  induction n generalizing a0 a1 a2 a3 a4 r with
  |zero =>
    have h:(none:Option (V×TR))=some r:=h
    cases h
  |succ n ih=>exact bR2 N _ a0 a1 a2 a3 a4 (fun _ y0_ y1_ y2_ y3_ y4_ r h=>bS1 N _ y0_ y1_ y2_ y3_ y4_ (fun _ x0_ x1_ x2_ x3_ x4_ r h=>ih x0_ x1_ x2_ x3_ x4_ r h) r h) r h

/- (*qcref5.R).Enter!! -/
set_option maxRecDepth 100000 in
theorem bX2 (N:Nat) (a0:TR) (a1:Int) (a2:Int) (a3:V) (a4:(List V)) (r:(V×TR)) (h:aZ0 N a0 a1 a2 a3 a4=some r):Spec Try.prog 60 [(1000,.box [.sl 4 (List.map J4 a0.w.classes),.sl 2 (List.map H6 a0.w.heap),.int a0.w.epoch,.int a0.fuel,.int a0.sends,.int a0.turns,.int a0.deep,.int a0.err,.own 1001,.own 1002] 109),(1001,.row 3 (List.map Z7 a0.sites) 23),(1002,.row 1 (List.map K6 a0.of) 3)] [.ptr 1000 0,.int a1,.int a2,.agg (eV a3),.sl 2 (List.map eV a4)] (.agg (eV r.1)) [(1000,.box [.sl 4 (List.map J4 r.2.w.classes),.sl 2 (List.map H6 r.2.w.heap),.int r.2.w.epoch,.int r.2.fuel,.int r.2.sends,.int r.2.turns,.int r.2.deep,.int r.2.err,.own 2,.own 3] 109),(2,.row 3 (List.map Z7 r.2.sites) 23),(1001,.gone),(3,.row 1 (List.map K6 r.2.of) 3),(1002,.gone)] [2,3]:=by
  exact bR8 N N a0 a1 a2 a3 a4 r h

/- qcref5.Run -/
set_option maxRecDepth 100000 in
set_option maxHeartbeats 8000000 in
theorem cE3 (N:Nat) (a0:Wd) (a1:K7) (a2:Int) (r:(Wd×aF1×TR)) (h:aY0 N a0 a1 a2=some r):Spec Try.prog 21 [] [.agg (eWd a0),.agg (aX3 a1),.int a2] (.tup [.agg (eWd r.1),.agg (bM8 r.2.1),.fp (eTR r.2.2)]) [] []:=by
 refine Spec.of C9 Try.func21 rfl Try.ntmps21 (by kernel_rfl) rfl rfl rfl fun Γ hn=>?_
 unfold aY0 at h
 refine j6 hn ?_
 refine j6 hn ?_
 refine j5.seqQ fun _ A0 _ R0=>?_
 refine j6 hn ?_
 obtain ⟨r1,hr2,h⟩:=j4 h
 show l7 Try.prog _ _ _ _
 refine cA (bR1 N a0 a1 a2 r1 hr2) ?_
 refine kp [(3,_),(4,_),(6,_),(7,_),(9,_),(10,_)] [(3,_),(4,_),(6,_),(7,_),(17,_)] ?_
 refine j6 hn ?_
 refine l8 hn ?_
 refine l5 h (fun hb3 h=>?_) (fun hb3 h=>?_)
 ·refine j6 hn ?_
  refine j5.nilrowB 17 8 501 3 23 rfl rfl rfl rfl rfl rfl ?_
  refine j5.nilrowB 17 9 502 1 3 rfl rfl rfl rfl rfl rfl ?_
  refine j5.fzAll 501 rfl ?_
  refine j5.fzAll 502 rfl ?_
  refine j5.gh (Gh.fzBox 8 17 rfl rfl rfl) (fun _=>?_)
  refine got hn ?_
  refine R0 _ _ ?_
  obtain rfl:=Option.some.inj h
  exact ⟨[],_,fm⟩
 refine p9 hn ?_
 refine A0 _ _ ?_
 refine j5.seqQ fun _ A1 _ _=>?_
 refine J7 hn (by kernel_rfl) ?_
 obtain ⟨r4,hr5,h⟩:=j4 h
 show l7 Try.prog _ _ _ _
 refine cA (bH5 N a0.heap a1.self_ r4 hr5) ?_
 obtain ⟨r6,hr7,h⟩:=j4 h
 show l7 Try.prog _ _ _ _
 refine cA (bL3 N a0 r4 a1.name r6 hr7) ?_
 refine A1 _ _ ?_
 refine j5.seqQ fun _ A2 _ R2=>?_
 refine kp [(3,_),(4,_),(6,_),(7,_),(9,_),(11,_),(12,_)] [(3,_),(4,_),(6,_),(7,_),(17,_)] ?_
 refine j6 hn ?_
 refine l8 hn ?_
 refine l5 h (fun hb8 h=>?_) (fun hb8 h=>?_)
 ·refine j6 hn ?_
  refine j5.nilrowB 17 8 503 3 23 rfl rfl rfl rfl rfl rfl ?_
  refine j5.nilrowB 17 9 504 1 3 rfl rfl rfl rfl rfl rfl ?_
  refine j5.fzAll 503 rfl ?_
  refine j5.fzAll 504 rfl ?_
  refine j5.gh (Gh.fzBox 8 17 rfl rfl rfl) (fun _=>?_)
  refine got hn ?_
  refine R2 _ _ ?_
  obtain rfl:=Option.some.inj h
  exact ⟨[],_,fm⟩
 refine p9 hn ?_
 refine A2 _ _ ?_
 refine j5.nilrowB 17 8 505 3 23 rfl rfl rfl rfl rfl rfl ?_
 refine j5.nilrowB 17 9 506 1 3 rfl rfl rfl rfl rfl rfl ?_
 refine kp [(3,_),(4,_),(6,_),(7,_),(9,_),(11,_),(12,_)] [(3,_),(4,_),(6,_),(7,_),(17,_),(505,_),(506,_)] ?_
 refine j6 hn ?_
 obtain ⟨r9,hr10,h⟩:=j4 h
 show l7 Try.prog _ _ _ _
 refine cA ((bX2 N (⟨a0,a2,(0:Int),(0:Int),(0:Int),(0:Int),([]:List St),([]:List Int)⟩:TR) r6.1 r6.2 a1.self_ a1.args r9 hr10).swl [(1000,17),(1001,505),(1002,506),(2,507),(3,508)] rfl) ?_
 refine j5.seqQ fun _ A3 _ R3=>?_
 refine j6 hn ?_
 refine l8 hn ?_
 refine l5 h (fun hb11 h=>?_) (fun hb11 h=>?_)
 ·refine j5.seqQ fun _ A4 _ _=>?_
  refine kp [(3,_),(6,_),(7,_),(9,_)] [(3,_),(6,_),(7,_),(17,_),(507,_),(508,_)] ?_
  refine J7 hn (by kernel_rfl) ?_
  refine A4 _ _ ?_
  refine j5.fzAll 507 rfl ?_
  refine j5.fzAll 508 rfl ?_
  refine j5.gh (Gh.fzBox 8 17 rfl rfl rfl) (fun _=>?_)
  refine got hn ?_
  refine R3 _ _ ?_
  obtain rfl:=Option.some.inj h
  exact ⟨[],_,fm⟩
 refine p9 hn ?_
 refine A3 _ _ ?_
 refine j5.seqQ fun _ A5 _ _=>?_
 refine kp [(6,_),(7,_),(9,_),(13,_)] [(6,_),(7,_),(13,_),(17,_),(507,_),(508,_)] ?_
 refine J7 hn (by kernel_rfl) ?_
 refine A5 _ _ ?_
 refine j5.fzAll 507 rfl ?_
 refine j5.fzAll 508 rfl ?_
 refine j5.gh (Gh.fzBox 8 17 rfl rfl rfl) (fun _=>?_)
 refine got hn ?_
 obtain rfl:=Option.some.inj h
 exact ⟨[],_,fm⟩

/- qcref1.SameCode -/
set_option maxRecDepth 100000 in
set_option maxHeartbeats 8000000 in
theorem bS3 (N:Nat) (a0:(List Ins)) (a1:(List Ins)) (r:Bool) (h:aJ7 N a0 a1=some r):Spec Try.prog 37 [] [.sl 5 (List.map aK6 a0),.sl 5 (List.map aK6 a1)] (.bool r) [] []:=by
 refine Spec.of C9 Try.func37 rfl Try.ntmps37 (by kernel_rfl) rfl rfl rfl fun Γ hn=>?_
 unfold aJ7 at h
 refine j6 hn ?_
 refine j5.seqQ fun _ A0 _ R0=>?_
 refine j6 hn ?_
 refine z8 (fun _=>?_)
 refine z8 (fun _=>?_)
 refine l8 hn ?_
 refine l5 h (fun hb3 h=>?_) (fun hb3 h=>?_)
 ·refine j6 hn ?_
  refine got hn ?_
  refine R0 _ _ ?_
  obtain rfl:=Option.some.inj h
  exact ⟨[],_,fm⟩
 refine p9 hn ?_
 refine A0 _ _ ?_
 refine j5.seqQ fun _ A1 _ R1=>?_
 refine j6 hn ?_
 refine z8 (fun hl4=>?_)
 obtain ⟨o6,h7,h⟩:=j4 h
 refine jk (ι:={ s // o6=D5.next s }) hn (fun s=>[]) (fun s=>[]) [] [] (fun _ A2 _ R2=>?_) ?_
 ·refine j5.blkQ fun _ _ E3 _ R3=>?_
  refine lq (ι:={ q:((List Ins)×Nat) // q.1=a0.drop q.2∧V6 N a1 q.1 q.2=some o6 }) hn (fun q=>[(13,.int (q.1.2:Int))]) (fun q=>[]) (fun q=>q.1.1.length) [(0,_),(1,_),(12,_)] [] ⟨(a0,0),rfl,h7⟩ [] ?_
  rintro ⟨⟨rest_,k5⟩,hd9,h7⟩ _ A4 X4 R4
  replace hd9:rest_=a0.drop k5:=hd9
  rcases rest_ with _|⟨x11,rest8⟩
  ·have hlt13:=J5 hd9
   replace h7:=(V6.eq_1 _ _ _).symm.trans h7
   refine j6 hn ?_
   refine j5.seqQ fun _ _ X5 _=>?_
   refine l8 hn ?_
   refine d9 hlt13 ?_
   refine F7 hn ?_
   refine X5 _ _ _ ?_
   refine X4 _ _ _ ?_
   refine E3 _ _ ?_
   refine A2 _ _ ?_
   exact jn ⟨_,sj h7⟩ []
  ·obtain ⟨hx12,hd2,hlt13⟩:=F9 hd9
   replace h7:=(V6.eq_2 _ _ _ _ _).symm.trans h7
   refine j6 hn ?_
   refine j5.seqQ fun _ A6 _ _=>?_
   refine l8 hn ?_
   refine j3 hlt13 ?_
   refine p9 hn ?_
   refine A6 _ _ ?_
   refine j5.seqQ fun _ A7 _ R7=>?_
   refine j5.blkQ fun _ A8 _ _ R8=>?_
   refine j6 hn ?_
   refine j5.seqQ fun _ A9 _ _=>?_
   refine J7 hn (by kernel_rfl) ?_
   refine aC1 hx12 ?_
   obtain ⟨x14,hx15,h7⟩:=j4 h7
   refine N9 hx15 ?_
   refine A9 _ _ ?_
   refine l8 hn ?_
   refine l5 h7 (fun hb16 h7=>?_) (fun hb16 h7=>?_)
   ·refine j6 hn ?_
    refine got hn ?_
    refine R8 _ _ ?_
    refine R7 _ _ ?_
    refine R4 _ _ ?_
    refine R3 _ _ ?_
    refine R2 _ _ ?_
    refine R1 _ _ ?_
    obtain rfl:=Option.some.inj h7
    obtain rfl:=Option.some.inj h
    exact ⟨[],_,fm⟩
   refine p9 hn ?_
   refine A8 _ _ ?_
   refine A7 _ _ ?_
   refine q8 hn ?_
   refine Or.inl (And.intro (Z8 hx12 hl4) ?_)
   refine A4 _ _ ?_
   exact jn ⟨(rest8,k5+1),hd2,h7⟩ [] (by show rest8.length < rest8.length+1; omega)
 rintro ⟨⟨⟩,rfl⟩
 refine A1 _ _ ?_
 refine j6 hn ?_
 refine got hn ?_
 obtain rfl:=Option.some.inj h
 exact ⟨[],_,fm⟩

/- qcref1.SameWorld -/
set_option maxRecDepth 100000 in
set_option maxHeartbeats 8000000 in
theorem bR4 (N:Nat) (a0:Wd) (a1:Wd) (r:Bool) (h:aH2 N a0 a1=some r):Spec Try.prog 17 [] [.agg (eWd a0),.agg (eWd a1)] (.bool r) [] []:=by
 refine Spec.of C9 Try.func17 rfl Try.ntmps17 (by kernel_rfl) rfl rfl rfl fun Γ hn=>?_
 unfold aH2 at h
 refine j6 hn ?_
 refine j5.seqQ fun _ A0 _ R0=>?_
 refine j5.seqQ fun _ A1 _ _=>?_
 obtain ⟨o3,h2,h⟩:=j4 h
 refine jk (ι:={ s // o3=s }) hn (fun s=>[(36,.bool s.1)]) (fun s=>[]) [(2,_),(3,_)] [(2,_),(3,_)] (fun _ A2 _ _=>?_) ?_
 ·refine q8 hn ?_
  refine l5 h2 (fun hb4 h2=>?_) (fun hb4 h2=>?_)
  ·refine j3 hb4 ?_
   refine j3 hb4 ?_
   refine j3 hb4 ?_
   refine j3 hb4 ?_
   refine j3 hb4 ?_
   refine j3 hb4 ?_
   refine j3 hb4 ?_
   refine A2 _ _ ?_
   exact jn ⟨_,sj h2⟩ []
  refine d9 hb4 ?_
  refine d9 hb4 ?_
  refine z8 (fun _=>?_)
  refine d9 hb4 ?_
  refine d9 hb4 ?_
  refine d9 hb4 ?_
  refine z8 (fun _=>?_)
  refine d9 hb4 ?_
  refine d9 hb4 ?_
  refine l5 h2 (fun hb7 h2=>?_) (fun hb7 h2=>?_)
  ·refine j3 hb7 ?_
   refine j3 hb7 ?_
   refine j3 hb7 ?_
   refine j3 hb7 ?_
   refine j3 hb7 ?_
   refine j3 hb7 ?_
   refine j3 hb7 ?_
   refine A2 _ _ ?_
   exact jn ⟨_,sj h2⟩ []
  refine d9 hb7 ?_
  refine d9 hb7 ?_
  refine z8 (fun _=>?_)
  refine d9 hb7 ?_
  refine d9 hb7 ?_
  refine d9 hb7 ?_
  refine z8 (fun _=>?_)
  refine d9 hb7 ?_
  refine d9 hb7 ?_
  refine A2 _ _ ?_
  exact jn ⟨_,sj h2⟩ []
 rintro ⟨v1,hv_⟩
 replace hv_:=hv_.symm
 subst hv_
 refine A1 _ _ ?_
 refine l8 hn ?_
 refine l5 h (fun hb10 h=>?_) (fun hb10 h=>?_)
 ·refine j6 hn ?_
  refine got hn ?_
  refine R0 _ _ ?_
  obtain rfl:=Option.some.inj h
  exact ⟨[],_,fm⟩
 refine p9 hn ?_
 refine A0 _ _ ?_
 refine j5.seqQ fun _ A3 _ R3=>?_
 refine j6 hn ?_
 refine z8 (fun hl11=>?_)
 obtain ⟨o13,h14,h⟩:=j4 h
 refine jk (ι:={ s // o13=D5.next s }) hn (fun s=>[]) (fun s=>[]) [(2,_),(3,_)] [(2,_),(3,_)] (fun _ A4 _ R4=>?_) ?_
 ·refine j5.blkQ fun _ _ E5 _ R5=>?_
  refine lq (ι:={ q:((List Cl)×Nat) // q.1=a0.classes.drop q.2∧U4 N a1 q.1 q.2=some o13 }) hn (fun q=>[(40,.int (q.1.2:Int))]) (fun q=>[]) (fun q=>q.1.1.length) [(2,_),(3,_),(38,_),(39,_)] [(2,_),(3,_)] ⟨(a0.classes,0),rfl,h14⟩ [] ?_
  rintro ⟨⟨rest_,k12⟩,hd16,h14⟩ _ A6 X6 R6
  replace hd16:rest_=a0.classes.drop k12:=hd16
  rcases rest_ with _|⟨x18,rest15⟩
  ·have hlt20:=J5 hd16
   replace h14:=(U4.eq_1 _ _ _).symm.trans h14
   refine j6 hn ?_
   refine j5.seqQ fun _ _ X7 _=>?_
   refine l8 hn ?_
   refine d9 hlt20 ?_
   refine F7 hn ?_
   refine X7 _ _ _ ?_
   refine X6 _ _ _ ?_
   refine E5 _ _ ?_
   refine A4 _ _ ?_
   exact jn ⟨_,sj h14⟩ []
  ·obtain ⟨hx19,hd2,hlt20⟩:=F9 hd16
   replace h14:=(U4.eq_2 _ _ _ _ _).symm.trans h14
   refine j6 hn ?_
   refine j5.seqQ fun _ A8 _ _=>?_
   refine l8 hn ?_
   refine j3 hlt20 ?_
   refine p9 hn ?_
   refine A8 _ _ ?_
   refine j5.seqQ fun _ A9 _ R9=>?_
   refine j5.blkQ fun _ A10 _ _ R10=>?_
   refine j6 hn ?_
   refine aC1 hx19 ?_
   refine j6 hn ?_
   obtain ⟨x21,hx22,h14⟩:=j4 h14
   refine N9 hx22 ?_
   refine j5.seqQ fun _ A11 _ R11=>?_
   refine j5.seqQ fun _ A12 _ _=>?_
   obtain ⟨o25,h24,h14⟩:=j4 h14
   refine jk (ι:={ s // o25=s }) hn (fun s=>[(77,.bool s.1)]) (fun s=>[]) [(2,_),(3,_),(6,_),(7,_),(38,_),(39,_),(40,_)] [(2,_),(3,_),(6,_),(7,_)] (fun _ A13 _ _=>?_) ?_
   ·refine kp [(2,_),(3,_),(6,_),(7,_),(38,_),(39,_),(40,_)] [(2,_),(3,_),(6,_),(7,_)] ?_
    refine q8 hn ?_
    refine l5 h24 (fun hb26 h24=>?_) (fun hb26 h24=>?_)
    ·refine j3 hb26 ?_
     refine j3 hb26 ?_
     refine j3 hb26 ?_
     refine j3 hb26 ?_
     refine j3 hb26 ?_
     refine A13 _ _ ?_
     exact jn ⟨_,sj h24⟩ []
    refine d9 hb26 ?_
    refine d9 hb26 ?_
    refine d9 hb26 ?_
    refine d9 hb26 ?_
    refine d9 hb26 ?_
    refine l5 h24 (fun hb27 h24=>?_) (fun hb27 h24=>?_)
    ·refine j3 hb27 ?_
     refine j3 hb27 ?_
     refine j3 hb27 ?_
     refine j3 hb27 ?_
     refine j3 hb27 ?_
     refine A13 _ _ ?_
     exact jn ⟨_,sj h24⟩ []
    refine d9 hb27 ?_
    refine d9 hb27 ?_
    refine d9 hb27 ?_
    refine d9 hb27 ?_
    refine d9 hb27 ?_
    refine l5 h24 (fun hb28 h24=>?_) (fun hb28 h24=>?_)
    ·refine j3 hb28 ?_
     refine j3 hb28 ?_
     refine j3 hb28 ?_
     refine j3 hb28 ?_
     refine j3 hb28 ?_
     refine j3 hb28 ?_
     refine j3 hb28 ?_
     refine A13 _ _ ?_
     exact jn ⟨_,sj h24⟩ []
    refine d9 hb28 ?_
    refine d9 hb28 ?_
    refine z8 (fun _=>?_)
    refine d9 hb28 ?_
    refine d9 hb28 ?_
    refine d9 hb28 ?_
    refine z8 (fun _=>?_)
    refine d9 hb28 ?_
    refine d9 hb28 ?_
    refine A13 _ _ ?_
    exact jn ⟨_,sj h24⟩ []
   rintro ⟨v23,hv_⟩
   replace hv_:=hv_.symm
   subst hv_
   refine A12 _ _ ?_
   refine l8 hn ?_
   refine l5 h14 (fun hb31 h14=>?_) (fun hb31 h14=>?_)
   ·refine j6 hn ?_
    refine got hn ?_
    refine R11 _ _ ?_
    refine R10 _ _ ?_
    refine R9 _ _ ?_
    refine R6 _ _ ?_
    refine R5 _ _ ?_
    refine R4 _ _ ?_
    refine R3 _ _ ?_
    obtain rfl:=Option.some.inj h14
    obtain rfl:=Option.some.inj h
    exact ⟨[],_,fm⟩
   refine p9 hn ?_
   refine A11 _ _ ?_
   refine j6 hn ?_
   refine z8 (fun hl32=>?_)
   obtain ⟨o34,h35,h14⟩:=j4 h14
   refine jk (ι:={ s // o34=D5.next s }) hn (fun s=>[]) (fun s=>[]) [(2,_),(3,_),(38,_),(39,_),(40,_)] [(2,_),(3,_)] (fun _ A14 _ R14=>?_) ?_
   ·refine j5.blkQ fun _ _ E15 _ R15=>?_
    refine lq (ι:={ q:((List Me)×Nat) // q.1=x18.methods.drop q.2∧U2 N x21 q.1 q.2=some o34 }) hn (fun q=>[(81,.int (q.1.2:Int))]) (fun q=>[]) (fun q=>q.1.1.length) [(2,_),(3,_),(7,_),(38,_),(39,_),(40,_),(79,_),(80,_)] [(2,_),(3,_),(7,_)] ⟨(x18.methods,0),rfl,h35⟩ [] ?_
    rintro ⟨⟨rest_,k33⟩,hd37,h35⟩ _ A16 X16 R16
    replace hd37:rest_=x18.methods.drop k33:=hd37
    rcases rest_ with _|⟨x39,rest36⟩
    ·have hlt41:=J5 hd37
     replace h35:=(U2.eq_1 _ _ _).symm.trans h35
     refine j6 hn ?_
     refine j5.seqQ fun _ _ X17 _=>?_
     refine l8 hn ?_
     refine d9 hlt41 ?_
     refine F7 hn ?_
     refine X17 _ _ _ ?_
     refine X16 _ _ _ ?_
     refine E15 _ _ ?_
     refine A14 _ _ ?_
     exact jn ⟨_,sj h35⟩ []
    ·obtain ⟨hx40,hd2,hlt41⟩:=F9 hd37
     replace h35:=(U2.eq_2 _ _ _ _ _).symm.trans h35
     refine j6 hn ?_
     refine j5.seqQ fun _ A18 _ _=>?_
     refine l8 hn ?_
     refine j3 hlt41 ?_
     refine p9 hn ?_
     refine A18 _ _ ?_
     refine j5.seqQ fun _ A19 _ R19=>?_
     refine j5.blkQ fun _ A20 _ _ R20=>?_
     refine j6 hn ?_
     refine aC1 hx40 ?_
     refine j6 hn ?_
     obtain ⟨x42,hx43,h35⟩:=j4 h35
     refine N9 hx43 ?_
     refine j5.seqQ fun _ A21 _ _=>?_
     obtain ⟨o46,h45,h35⟩:=j4 h35
     refine jk (ι:={ s // o46=s }) hn (fun s=>[(124,.bool s.1)]) (fun s=>[]) [(2,_),(3,_),(7,_),(38,_),(39,_),(40,_),(79,_),(80,_),(81,_)] [(2,_),(3,_),(7,_)] (fun _ A22 _ _=>?_) ?_
     ·refine kp [(2,_),(3,_),(7,_),(9,_),(10,_),(38,_),(39,_),(40,_),(79,_),(80,_),(81,_)] [(2,_),(3,_),(7,_),(9,_),(10,_)] ?_
      refine q8 hn ?_
      refine l5 h45 (fun hb47 h45=>?_) (fun hb47 h45=>?_)
      ·refine j3 hb47 ?_
       refine j3 hb47 ?_
       refine j3 hb47 ?_
       refine j3 hb47 ?_
       refine j3 hb47 ?_
       refine A22 _ _ ?_
       exact jn ⟨_,sj h45⟩ []
      refine d9 hb47 ?_
      refine d9 hb47 ?_
      refine d9 hb47 ?_
      refine d9 hb47 ?_
      refine d9 hb47 ?_
      refine l5 h45 (fun hb48 h45=>?_) (fun hb48 h45=>?_)
      ·refine j3 hb48 ?_
       refine j3 hb48 ?_
       refine j3 hb48 ?_
       refine j3 hb48 ?_
       refine j3 hb48 ?_
       refine A22 _ _ ?_
       exact jn ⟨_,sj h45⟩ []
      refine d9 hb48 ?_
      refine d9 hb48 ?_
      refine d9 hb48 ?_
      refine d9 hb48 ?_
      refine d9 hb48 ?_
      refine l5 h45 (fun hb49 h45=>?_) (fun hb49 h45=>?_)
      ·refine j3 hb49 ?_
       refine j3 hb49 ?_
       refine j3 hb49 ?_
       refine j3 hb49 ?_
       refine j3 hb49 ?_
       refine A22 _ _ ?_
       exact jn ⟨_,sj h45⟩ []
      refine d9 hb49 ?_
      refine d9 hb49 ?_
      refine d9 hb49 ?_
      refine d9 hb49 ?_
      refine d9 hb49 ?_
      refine l5 h45 (fun hb50 h45=>?_) (fun hb50 h45=>?_)
      ·refine j3 hb50 ?_
       refine j3 hb50 ?_
       refine j3 hb50 ?_
       refine j3 hb50 ?_
       refine j3 hb50 ?_
       refine j3 hb50 ?_
       refine A22 _ _ ?_
       exact jn ⟨_,sj h45⟩ []
      refine d9 hb50 ?_
      refine d9 hb50 ?_
      refine d9 hb50 ?_
      refine d9 hb50 ?_
      obtain ⟨r51,hr52,h45⟩:=j4 h45
      show l7 Try.prog _ _ _ _
      refine cA (bS3 N x39.code x42.code r51 hr52) ?_
      refine d9 hb50 ?_
      refine d9 hb50 ?_
      refine A22 _ _ ?_
      exact jn ⟨_,sj h45⟩ []
     rintro ⟨v44,hv_⟩
     replace hv_:=hv_.symm
     subst hv_
     refine A21 _ _ ?_
     refine l8 hn ?_
     refine l5 h35 (fun hb53 h35=>?_) (fun hb53 h35=>?_)
     ·refine j6 hn ?_
      refine got hn ?_
      refine R20 _ _ ?_
      refine R19 _ _ ?_
      refine R16 _ _ ?_
      refine R15 _ _ ?_
      refine R14 _ _ ?_
      refine R10 _ _ ?_
      refine R9 _ _ ?_
      refine R6 _ _ ?_
      refine R5 _ _ ?_
      refine R4 _ _ ?_
      refine R3 _ _ ?_
      obtain rfl:=Option.some.inj h35
      obtain rfl:=Option.some.inj h14
      obtain rfl:=Option.some.inj h
      exact ⟨[],_,fm⟩
     refine p9 hn ?_
     refine A20 _ _ ?_
     refine A19 _ _ ?_
     refine q8 hn ?_
     refine Or.inl (And.intro (Z8 hx40 hl32) ?_)
     refine A16 _ _ ?_
     exact jn ⟨(rest36,k33+1),hd2,h35⟩ [] (by show rest36.length < rest36.length+1; omega)
   rintro ⟨⟨⟩,rfl⟩
   refine A10 _ _ ?_
   refine A9 _ _ ?_
   refine q8 hn ?_
   refine Or.inl (And.intro (Z8 hx19 hl11) ?_)
   refine A6 _ _ ?_
   exact jn ⟨(rest15,k12+1),hd2,h14⟩ [] (by show rest15.length < rest15.length+1; omega)
 rintro ⟨⟨⟩,rfl⟩
 refine A3 _ _ ?_
 refine j5.seqQ fun _ A23 _ R23=>?_
 refine j6 hn ?_
 refine z8 (fun hl54=>?_)
 obtain ⟨o56,h57,h⟩:=j4 h
 refine jk (ι:={ s // o56=D5.next s }) hn (fun s=>[]) (fun s=>[]) [] [] (fun _ A24 _ R24=>?_) ?_
 ·refine j5.blkQ fun _ _ E25 _ R25=>?_
  refine lq (ι:={ q:((List Ob)×Nat) // q.1=a0.heap.drop q.2∧U6 N a1 q.1 q.2=some o56 }) hn (fun q=>[(130,.int (q.1.2:Int))]) (fun q=>[]) (fun q=>q.1.1.length) [(3,_),(128,_),(129,_)] [(3,_)] ⟨(a0.heap,0),rfl,h57⟩ [] ?_
  rintro ⟨⟨rest_,k55⟩,hd59,h57⟩ _ A26 X26 R26
  replace hd59:rest_=a0.heap.drop k55:=hd59
  rcases rest_ with _|⟨x61,rest58⟩
  ·have hlt63:=J5 hd59
   replace h57:=(U6.eq_1 _ _ _).symm.trans h57
   refine j6 hn ?_
   refine j5.seqQ fun _ _ X27 _=>?_
   refine l8 hn ?_
   refine d9 hlt63 ?_
   refine F7 hn ?_
   refine X27 _ _ _ ?_
   refine X26 _ _ _ ?_
   refine E25 _ _ ?_
   refine A24 _ _ ?_
   exact jn ⟨_,sj h57⟩ []
  ·obtain ⟨hx62,hd2,hlt63⟩:=F9 hd59
   replace h57:=(U6.eq_2 _ _ _ _ _).symm.trans h57
   refine j6 hn ?_
   refine j5.seqQ fun _ A28 _ _=>?_
   refine l8 hn ?_
   refine j3 hlt63 ?_
   refine p9 hn ?_
   refine A28 _ _ ?_
   refine j5.seqQ fun _ A29 _ R29=>?_
   refine j5.blkQ fun _ A30 _ _ R30=>?_
   refine j6 hn ?_
   refine aC1 hx62 ?_
   refine j5.seqQ fun _ A31 _ R31=>?_
   refine j5.seqQ fun _ A32 _ _=>?_
   obtain ⟨o66,h65,h57⟩:=j4 h57
   refine jk (ι:={ s // o66=s }) hn (fun s=>[(156,.bool s.1)]) (fun s=>[]) [(3,_),(11,_),(12,_),(128,_),(129,_),(130,_)] [(3,_),(12,_)] (fun _ A33 _ _=>?_) ?_
   ·refine kp [(3,_),(11,_),(12,_),(128,_),(129,_),(130,_)] [(3,_),(12,_)] ?_
    refine J7 hn (by kernel_rfl) ?_
    obtain ⟨x67,hx68,h65⟩:=j4 h65
    refine N9 hx68 ?_
    refine l5 h65 (fun hb69 h65=>?_) (fun hb69 h65=>?_)
    ·refine j3 hb69 ?_
     refine j3 hb69 ?_
     refine j3 hb69 ?_
     refine j3 hb69 ?_
     refine j3 hb69 ?_
     refine j3 hb69 ?_
     refine j3 hb69 ?_
     refine j3 hb69 ?_
     refine j3 hb69 ?_
     refine j3 hb69 ?_
     refine j3 hb69 ?_
     refine A33 _ _ ?_
     exact jn ⟨_,sj h65⟩ []
    refine d9 hb69 ?_
    refine d9 hb69 ?_
    refine z8 (fun _=>?_)
    refine d9 hb69 ?_
    refine d9 hb69 ?_
    refine d9 hb69 ?_
    refine d9 hb69 ?_
    obtain ⟨x71,hx72,h65⟩:=j4 h65
    refine N9 hx72 ?_
    refine d9 hb69 ?_
    refine d9 hb69 ?_
    refine d9 hb69 ?_
    refine z8 (fun _=>?_)
    refine d9 hb69 ?_
    refine d9 hb69 ?_
    refine A33 _ _ ?_
    exact jn ⟨_,sj h65⟩ []
   rintro ⟨v64,hv_⟩
   replace hv_:=hv_.symm
   subst hv_
   refine A32 _ _ ?_
   refine l8 hn ?_
   refine l5 h57 (fun hb74 h57=>?_) (fun hb74 h57=>?_)
   ·refine j6 hn ?_
    refine got hn ?_
    refine R31 _ _ ?_
    refine R30 _ _ ?_
    refine R29 _ _ ?_
    refine R26 _ _ ?_
    refine R25 _ _ ?_
    refine R24 _ _ ?_
    refine R23 _ _ ?_
    obtain rfl:=Option.some.inj h57
    obtain rfl:=Option.some.inj h
    exact ⟨[],_,fm⟩
   refine p9 hn ?_
   refine A31 _ _ ?_
   refine j6 hn ?_
   refine z8 (fun hl75=>?_)
   obtain ⟨o77,h78,h57⟩:=j4 h57
   refine jk (ι:={ s // o77=D5.next s }) hn (fun s=>[]) (fun s=>[]) [(3,_),(128,_),(129,_),(130,_)] [(3,_)] (fun _ A34 _ R34=>?_) ?_
   ·refine j5.blkQ fun _ _ E35 _ R35=>?_
    refine lq (ι:={ q:((List V)×Nat) // q.1=x61.slots.drop q.2∧U7 N a1 k55 q.1 q.2=some o77 }) hn (fun q=>[(160,.int (q.1.2:Int))]) (fun q=>[]) (fun q=>q.1.1.length) [(3,_),(11,_),(12,_),(128,_),(129,_),(130,_),(159,_)] [(3,_),(12,_)] ⟨(x61.slots,0),rfl,h78⟩ [] ?_
    rintro ⟨⟨rest_,k76⟩,hd80,h78⟩ _ A36 X36 R36
    replace hd80:rest_=x61.slots.drop k76:=hd80
    rcases rest_ with _|⟨x82,rest79⟩
    ·have hlt84:=J5 hd80
     replace h78:=(U7.eq_1 _ _ _ _).symm.trans h78
     refine j6 hn ?_
     refine j5.seqQ fun _ _ X37 _=>?_
     refine l8 hn ?_
     refine d9 hlt84 ?_
     refine F7 hn ?_
     refine X37 _ _ _ ?_
     refine X36 _ _ _ ?_
     refine E35 _ _ ?_
     refine A34 _ _ ?_
     exact jn ⟨_,sj h78⟩ []
    ·obtain ⟨hx83,hd2,hlt84⟩:=F9 hd80
     replace h78:=(U7.eq_2 _ _ _ _ _ _).symm.trans h78
     refine j6 hn ?_
     refine j5.seqQ fun _ A38 _ _=>?_
     refine l8 hn ?_
     refine j3 hlt84 ?_
     refine p9 hn ?_
     refine A38 _ _ ?_
     refine j5.seqQ fun _ A39 _ R39=>?_
     refine j5.blkQ fun _ A40 _ _ R40=>?_
     refine j6 hn ?_
     refine j5.seqQ fun _ A41 _ _=>?_
     refine J7 hn (by kernel_rfl) ?_
     refine aC1 hx83 ?_
     obtain ⟨x85,hx86,h78⟩:=j4 h78
     refine N9 hx86 ?_
     obtain ⟨x87,hx88,h78⟩:=j4 h78
     refine N9 hx88 ?_
     refine A41 _ _ ?_
     refine l8 hn ?_
     refine l5 h78 (fun hb89 h78=>?_) (fun hb89 h78=>?_)
     ·refine kp [] [] ?_
      refine j6 hn ?_
      refine got hn ?_
      refine R40 _ _ ?_
      refine R39 _ _ ?_
      refine R36 _ _ ?_
      refine R35 _ _ ?_
      refine R34 _ _ ?_
      refine R30 _ _ ?_
      refine R29 _ _ ?_
      refine R26 _ _ ?_
      refine R25 _ _ ?_
      refine R24 _ _ ?_
      refine R23 _ _ ?_
      obtain rfl:=Option.some.inj h78
      obtain rfl:=Option.some.inj h57
      obtain rfl:=Option.some.inj h
      exact ⟨[],_,fm⟩
     refine p9 hn ?_
     refine A40 _ _ ?_
     refine A39 _ _ ?_
     refine kp [(3,_),(11,_),(12,_),(128,_),(129,_),(130,_),(159,_),(160,_)] [(3,_),(12,_)] ?_
     refine q8 hn ?_
     refine Or.inl (And.intro (Z8 hx83 hl75) ?_)
     refine A36 _ _ ?_
     exact jn ⟨(rest79,k76+1),hd2,h78⟩ [] (by show rest79.length < rest79.length+1; omega)
   rintro ⟨⟨⟩,rfl⟩
   refine A30 _ _ ?_
   refine A29 _ _ ?_
   refine q8 hn ?_
   refine Or.inl (And.intro (Z8 hx62 hl54) ?_)
   refine A26 _ _ ?_
   exact jn ⟨(rest58,k55+1),hd2,h57⟩ [] (by show rest58.length < rest58.length+1; omega)
 rintro ⟨⟨⟩,rfl⟩
 refine A23 _ _ ?_
 refine j6 hn ?_
 refine got hn ?_
 obtain rfl:=Option.some.inj h
 exact ⟨[],_,fm⟩

/- qcref1.Make -/
set_option maxRecDepth 100000 in
set_option maxHeartbeats 8000000 in
theorem b95 (N:Nat) (a0:Wd) (a1:ByteArray) (a2:Int) (a3:Int) (r:(Wd×Int×Int)) (h:bJ3 N a0 a1 a2 a3=some r):Spec Try.prog 33 [] [.agg (eWd a0),.str a1,.int a2,.int a3] (.tup [.agg (eWd r.1),.int r.2.1,.int r.2.2]) [] []:=by
 refine Spec.of C9 Try.func33 rfl Try.ntmps33 (by kernel_rfl) rfl rfl rfl fun Γ hn=>?_
 unfold bJ3 at h
 refine j6 hn ?_
 refine j5.seqQ fun _ A0 _ R0=>?_
 refine j6 hn ?_
 obtain ⟨r1,hr2,h⟩:=j4 h
 show l7 Try.prog _ _ _ _
 refine cA (aL3 N a1 r1 hr2) ?_
 refine l8 hn ?_
 refine l5 h (fun hb3 h=>?_) (fun hb3 h=>?_)
 ·refine j6 hn ?_
  refine got hn ?_
  refine R0 _ _ ?_
  obtain rfl:=Option.some.inj h
  exact ⟨[],_,fm⟩
 refine p9 hn ?_
 refine A0 _ _ ?_
 refine j5.seqQ fun _ A1 _ R1=>?_
 refine j6 hn ?_
 refine z8 (fun hl4=>?_)
 obtain ⟨o6,h7,h⟩:=j4 h
 refine jk (ι:={ s // o6=D5.next s }) hn (fun s=>[]) (fun s=>[]) [(1,_),(2,_),(3,_),(4,_),(8,_)] [(4,_),(8,_)] (fun _ A2 _ R2=>?_) ?_
 ·refine j5.blkQ fun _ _ E3 _ R3=>?_
  refine lq (ι:={ q:((List Cl)×Nat) // q.1=a0.classes.drop q.2∧aL9 N a1 q.1 q.2=some o6 }) hn (fun q=>[(21,.int (q.1.2:Int))]) (fun q=>[]) (fun q=>q.1.1.length) [(1,_),(2,_),(3,_),(4,_),(8,_),(19,_),(20,_)] [(4,_),(8,_)] ⟨(a0.classes,0),rfl,h7⟩ [] ?_
  rintro ⟨⟨rest_,k5⟩,hd9,h7⟩ _ A4 X4 R4
  replace hd9:rest_=a0.classes.drop k5:=hd9
  rcases rest_ with _|⟨x11,rest8⟩
  ·have hlt13:=J5 hd9
   replace h7:=(aL9.eq_1 _ _ _).symm.trans h7
   refine j6 hn ?_
   refine j5.seqQ fun _ _ X5 _=>?_
   refine l8 hn ?_
   refine d9 hlt13 ?_
   refine F7 hn ?_
   refine X5 _ _ _ ?_
   refine X4 _ _ _ ?_
   refine E3 _ _ ?_
   refine A2 _ _ ?_
   exact jn ⟨_,sj h7⟩ []
  ·obtain ⟨hx12,hd2,hlt13⟩:=F9 hd9
   replace h7:=(aL9.eq_2 _ _ _ _ _).symm.trans h7
   refine j6 hn ?_
   refine j5.seqQ fun _ A6 _ _=>?_
   refine l8 hn ?_
   refine j3 hlt13 ?_
   refine p9 hn ?_
   refine A6 _ _ ?_
   refine j5.seqQ fun _ A7 _ R7=>?_
   refine j5.blkQ fun _ A8 _ _ R8=>?_
   refine j6 hn ?_
   refine aC1 hx12 ?_
   refine j6 hn ?_
   refine l8 hn ?_
   refine l5 h7 (fun hb14 h7=>?_) (fun hb14 h7=>?_)
   ·refine j6 hn ?_
    refine got hn ?_
    refine R8 _ _ ?_
    refine R7 _ _ ?_
    refine R4 _ _ ?_
    refine R3 _ _ ?_
    refine R2 _ _ ?_
    refine R1 _ _ ?_
    obtain rfl:=Option.some.inj h7
    obtain rfl:=Option.some.inj h
    exact ⟨[],_,fm⟩
   refine p9 hn ?_
   refine A8 _ _ ?_
   refine A7 _ _ ?_
   refine q8 hn ?_
   refine Or.inl (And.intro (Z8 hx12 hl4) ?_)
   refine A4 _ _ ?_
   exact jn ⟨(rest8,k5+1),hd2,h7⟩ [] (by show rest8.length < rest8.length+1; omega)
 rintro ⟨⟨⟩,rfl⟩
 refine A1 _ _ ?_
 refine j5.seqQ fun _ A9 _ R9=>?_
 refine j5.seqQ fun _ A10 _ _=>?_
 obtain ⟨o17,h16,h⟩:=j4 h
 refine jk (ι:={ s // o17=s }) hn (fun s=>[(39,.bool s.1)]) (fun s=>[]) [(1,_),(2,_),(3,_),(4,_),(8,_)] [(4,_),(8,_)] (fun _ A11 _ _=>?_) ?_
 ·refine q8 hn ?_
  refine l5 h16 (fun hb18 h16=>?_) (fun hb18 h16=>?_)
  ·refine j3 hb18 ?_
   refine j3 hb18 ?_
   refine j3 hb18 ?_
   refine j3 hb18 ?_
   refine j3 hb18 ?_
   refine A11 _ _ ?_
   exact jn ⟨_,sj h16⟩ []
  refine d9 hb18 ?_
  refine d9 hb18 ?_
  refine d9 hb18 ?_
  refine z8 (fun _=>?_)
  refine d9 hb18 ?_
  refine d9 hb18 ?_
  refine A11 _ _ ?_
  exact jn ⟨_,sj h16⟩ []
 rintro ⟨v15,hv_⟩
 replace hv_:=hv_.symm
 subst hv_
 refine A10 _ _ ?_
 refine l8 hn ?_
 refine l5 h (fun hb20 h=>?_) (fun hb20 h=>?_)
 ·refine j6 hn ?_
  refine got hn ?_
  refine R9 _ _ ?_
  obtain rfl:=Option.some.inj h
  exact ⟨[],_,fm⟩
 refine p9 hn ?_
 refine A9 _ _ ?_
 refine j5.seqQ fun _ A12 _ R12=>?_
 refine j5.seqQ fun _ A13 _ _=>?_
 obtain ⟨o23,h22,h⟩:=j4 h
 refine jk (ι:={ s // o23=s }) hn (fun s=>[(62,.bool s.1)]) (fun s=>[]) [(1,_),(2,_),(3,_),(4,_),(8,_)] [(4,_),(8,_)] (fun _ A14 _ _=>?_) ?_
 ·refine q8 hn ?_
  refine l5 h22 (fun hb24 h22=>?_) (fun hb24 h22=>?_)
  ·refine j3 hb24 ?_
   refine j3 hb24 ?_
   refine A14 _ _ ?_
   exact jn ⟨_,sj h22⟩ []
  refine d9 hb24 ?_
  refine d9 hb24 ?_
  refine l5 h22 (fun hb25 h22=>?_) (fun hb25 h22=>?_)
  ·refine j3 hb25 ?_
   refine j3 hb25 ?_
   refine j3 hb25 ?_
   refine j3 hb25 ?_
   refine j3 hb25 ?_
   refine j3 hb25 ?_
   refine A14 _ _ ?_
   exact jn ⟨_,sj h22⟩ []
  refine d9 hb25 ?_
  refine d9 hb25 ?_
  refine d9 hb25 ?_
  obtain ⟨r26,hr27,h22⟩:=j4 h22
  show l7 Try.prog _ _ _ _
  refine cA (aE8 N a0 a2 r26 hr27) ?_
  refine d9 hb25 ?_
  refine Or.inr ?_
  refine d9 hb25 ?_
  refine d9 hb25 ?_
  refine l5 h22 (fun hb28 h22=>?_) (fun hb28 h22=>?_)
  ·refine j3 hb28 ?_
   refine j3 hb28 ?_
   refine j3 hb28 ?_
   refine j3 hb28 ?_
   refine A14 _ _ ?_
   exact jn ⟨_,sj h22⟩ []
  refine d9 hb28 ?_
  refine d9 hb28 ?_
  refine l5 h22 (fun hb29 h22=>?_) (fun hb29 h22=>?_)
  ·refine j3 hb29 ?_
   refine d9 hb28 ?_
   refine j3 hb29 ?_
   refine d9 hb28 ?_
   refine A14 _ _ ?_
   exact jn ⟨_,sj h22⟩ []
  refine d9 hb29 ?_
  refine d9 hb28 ?_
  refine d9 hb29 ?_
  refine d9 hb28 ?_
  refine A14 _ _ ?_
  exact jn ⟨_,sj h22⟩ []
 rintro ⟨v21,hv_⟩
 replace hv_:=hv_.symm
 subst hv_
 refine A13 _ _ ?_
 refine l8 hn ?_
 refine l5 h (fun hb30 h=>?_) (fun hb30 h=>?_)
 ·refine j6 hn ?_
  refine got hn ?_
  refine R12 _ _ ?_
  obtain rfl:=Option.some.inj h
  exact ⟨[],_,fm⟩
 refine p9 hn ?_
 refine A12 _ _ ?_
 refine j5.seqQ fun _ A15 _ R15=>?_
 refine j6 hn ?_
 refine z8 (fun _=>?_)
 refine l8 hn ?_
 refine l5 h (fun hb32 h=>?_) (fun hb32 h=>?_)
 ·refine j6 hn ?_
  refine got hn ?_
  refine R15 _ _ ?_
  obtain rfl:=Option.some.inj h
  exact ⟨[],_,fm⟩
 refine p9 hn ?_
 refine A15 _ _ ?_
 refine j6 hn ?_
 refine z8 (fun _=>?_)
 refine j6 hn ?_
 refine Or.inr ?_
 refine Exists.intro (List.map J4 ([]:List Cl)) (And.intro (by repeat (first|exact trivial|exact rfl|(refine And.intro ?_ ?_))) ?_)
 obtain ⟨hg34,h⟩:=D6 h
 refine U3 (l2:=a0.classes) hg34 (y7 _) ?_
 refine Or.inr ?_
 refine Exists.intro (List.map J4 [(⟨a1,a2,a3,[]⟩:Cl)]) (And.intro (by repeat (first|exact trivial|exact rfl|(refine And.intro ?_ ?_))) ?_)
 obtain ⟨hg35,h⟩:=D6 h
 refine U3 (l2:=[(⟨a1,a2,a3,[]⟩:Cl)]) hg35 (y7 _) ?_
 refine kp [(4,_),(8,_),(13,_)] [(4,_),(8,_),(81,_)] ?_
 refine j6 hn ?_
 refine j5.fzAll 81 rfl ?_
 refine got hn ?_
 obtain rfl:=Option.some.inj h
 exact ⟨[],_,fm⟩

/- qcref1.Install -/
set_option maxRecDepth 100000 in
set_option maxHeartbeats 8000000 in
theorem bX4 (N:Nat) (a0:Wd) (a1:Int) (a2:Me) (r:(Wd×Int)) (h:aY9 N a0 a1 a2=some r):Spec Try.prog 35 [] [.agg (eWd a0),.int a1,.agg (eMe a2)] (.tup [.agg (eWd r.1),.int r.2]) [] []:=by
 refine Spec.of C9 Try.func35 rfl Try.ntmps35 (by kernel_rfl) rfl rfl rfl fun Γ hn=>?_
 unfold aY9 at h
 refine j6 hn ?_
 refine j5.seqQ fun _ A0 _ R0=>?_
 refine j5.seqQ fun _ A1 _ _=>?_
 obtain ⟨o3,h2,h⟩:=j4 h
 refine jk (ι:={ s // o3=s }) hn (fun s=>[(21,.bool s.1)]) (fun s=>[]) [(1,_),(3,_),(5,_),(6,_)] [(3,_),(5,_),(6,_)] (fun _ A2 _ _=>?_) ?_
 ·refine q8 hn ?_
  refine l5 h2 (fun hb4 h2=>?_) (fun hb4 h2=>?_)
  ·refine j3 hb4 ?_
   refine j3 hb4 ?_
   refine j3 hb4 ?_
   refine j3 hb4 ?_
   refine j3 hb4 ?_
   refine A2 _ _ ?_
   exact jn ⟨_,sj h2⟩ []
  refine d9 hb4 ?_
  refine d9 hb4 ?_
  refine d9 hb4 ?_
  refine z8 (fun _=>?_)
  refine d9 hb4 ?_
  refine d9 hb4 ?_
  refine A2 _ _ ?_
  exact jn ⟨_,sj h2⟩ []
 rintro ⟨v1,hv_⟩
 replace hv_:=hv_.symm
 subst hv_
 refine A1 _ _ ?_
 refine l8 hn ?_
 refine l5 h (fun hb6 h=>?_) (fun hb6 h=>?_)
 ·refine j6 hn ?_
  refine got hn ?_
  refine R0 _ _ ?_
  obtain rfl:=Option.some.inj h
  exact ⟨[],_,fm⟩
 refine p9 hn ?_
 refine A0 _ _ ?_
 refine j6 hn ?_
 refine j6 hn ?_
 refine j5.seqQ fun _ A3 _ _=>?_
 refine j6 hn ?_
 obtain ⟨x7,hx8,h⟩:=j4 h
 refine N9 hx8 ?_
 refine z8 (fun hl9=>?_)
 refine j5.nilrow 8 208 5 64 rfl rfl rfl ?_
 obtain ⟨o20,h21,h⟩:=j4 h
 refine jk (ι:={ s // o20=s }) hn (fun s=>[(9,.bool s.1.2.1),(10,.bool s.1.2.2)]) (fun s=>[(208,.row 5 (List.map eMe s.1.1) 64)]) [(1,_),(3,_),(5,_),(6,_),(8,_)] [(3,_),(5,_),(6,_)] (fun _ A4 _ _=>?_) ?_
 ·refine j5.blkQ fun _ _ E5 _ _=>?_
  refine lq (ι:={ q:((List Me)×Nat×(List Me)×Bool×Bool) // q.1=x7.methods.drop q.2.1∧aF9 N a2 q.1 q.2.1 q.2.2.1 q.2.2.2.1 q.2.2.2.2=some o20 }) hn (fun q=>[(9,.bool q.1.2.2.2.1),(10,.bool q.1.2.2.2.2),(30,.int (q.1.2.1:Int))]) (fun q=>[(208,.row 5 (List.map eMe q.1.2.2.1) 64)]) (fun q=>q.1.1.length) [(1,_),(3,_),(5,_),(6,_),(8,_),(28,_),(29,_)] [(3,_),(5,_),(6,_)] ⟨(x7.methods,0,([]:List Me),false,false),rfl,h21⟩ [] ?_
  rintro ⟨⟨rest_,k10,v11,v12,v13⟩,hd23,h21⟩ _ A6 X6 _
  replace hd23:rest_=x7.methods.drop k10:=hd23
  rcases rest_ with _|⟨x25,rest22⟩
  ·have hlt27:=J5 hd23
   replace h21:=(aF9.eq_1 _ _ _ _ _ _).symm.trans h21
   refine j6 hn ?_
   refine j5.seqQ fun _ _ X7 _=>?_
   refine l8 hn ?_
   refine d9 hlt27 ?_
   refine F7 hn ?_
   refine X7 _ _ _ ?_
   refine X6 _ _ _ ?_
   refine E5 _ _ ?_
   refine A4 _ _ ?_
   exact jn ⟨_,sj h21⟩ []
  ·obtain ⟨hx26,hd2,hlt27⟩:=F9 hd23
   replace h21:=(aF9.eq_2 _ _ _ _ _ _ _ _).symm.trans h21
   refine j6 hn ?_
   refine j5.seqQ fun _ A8 _ _=>?_
   refine l8 hn ?_
   refine j3 hlt27 ?_
   refine p9 hn ?_
   refine A8 _ _ ?_
   refine j5.seqQ fun _ A9 _ _=>?_
   obtain ⟨o32,h31,h21⟩:=j4 h21
   refine jk (ι:={ s // o32=s }) hn (fun s=>[(8,.own 42),(9,.bool s.1.2.1),(10,.bool s.1.2.2)]) (fun s=>[(42,.row 5 (List.map eMe s.1.1) 64)]) [(1,_),(3,_),(5,_),(6,_),(28,_),(29,_),(30,_)] [(3,_),(5,_),(6,_)] (fun _ A10 _ _=>?_) ?_
   ·refine j5.blkQ fun _ A11 E11 _ _=>?_
    refine j6 hn ?_
    refine aC1 hx26 ?_
    refine j5.seqQ fun _ A12 X12 _=>?_
    refine j6 hn ?_
    refine l8 hn ?_
    refine l5 h31 (fun hb33 h31=>?_) (fun hb33 h31=>?_)
    ·refine kp [(1,_),(3,_),(5,_),(6,_),(8,_),(28,_),(29,_),(30,_)] [(3,_),(5,_),(6,_),(208,_)] ?_
     refine j6 hn ?_
     refine Exists.intro (List.map eMe [a2]) (And.intro (by repeat (first|exact trivial|exact rfl|(refine And.intro ?_ ?_))) ?_)
     obtain ⟨hg34,h31⟩:=D6 h31
     refine U3 (l2:=[a2]) hg34 (y7 _) ?_
     refine j6 hn ?_
     refine F7 hn ?_
     refine X12 _ _ _ ?_
     refine E11 _ _ ?_
     refine A10 _ _ ?_
     exact jn ⟨_,sj h31⟩ []
    refine p9 hn ?_
    refine A12 _ _ ?_
    refine j5.seqQ fun _ A13 _ _=>?_
    refine j5.seqQ fun _ A14 _ _=>?_
    obtain ⟨o37,h36,h31⟩:=j4 h31
    refine jk (ι:={ s // o37=s }) hn (fun s=>[(51,.bool s.1)]) (fun s=>[]) [(1,_),(3,_),(5,_),(6,_),(8,_),(9,_),(10,_),(12,_),(28,_),(29,_),(30,_)] [(3,_),(5,_),(6,_),(12,_),(208,_)] (fun _ A15 _ _=>?_) ?_
    ·refine kp [(1,_),(3,_),(5,_),(6,_),(8,_),(9,_),(10,_),(12,_),(28,_),(29,_),(30,_)] [(3,_),(5,_),(6,_),(12,_),(208,_)] ?_
     refine q8 hn ?_
     refine l5 h36 (fun hb38 h36=>?_) (fun hb38 h36=>?_)
     ·refine j3 hb38 ?_
      refine j3 hb38 ?_
      refine j3 hb38 ?_
      refine j3 hb38 ?_
      refine j3 hb38 ?_
      refine A15 _ _ ?_
      exact jn ⟨_,sj h36⟩ []
     refine d9 hb38 ?_
     refine d9 hb38 ?_
     refine d9 hb38 ?_
     refine d9 hb38 ?_
     refine d9 hb38 ?_
     refine A15 _ _ ?_
     exact jn ⟨_,sj h36⟩ []
    rintro ⟨v35,hv_⟩
    replace hv_:=hv_.symm
    subst hv_
    refine A14 _ _ ?_
    obtain ⟨o42,h41,h31⟩:=j4 h31
    refine jk (ι:={ s // o42=s }) hn (fun s=>[(8,.own 55),(9,.bool s.1.2)]) (fun s=>[(55,.row 5 (List.map eMe s.1.1) 64)]) [(1,_),(3,_),(5,_),(6,_),(10,_),(12,_),(28,_),(29,_),(30,_)] [(3,_),(5,_),(6,_),(12,_)] (fun _ A16 _ _=>?_) ?_
    ·refine l8 hn ?_
     refine l5 h41 (fun hb43 h41=>?_) (fun hb43 h41=>?_)
     ·refine j6 hn ?_
      refine Exists.intro (List.map eMe [a2]) (And.intro (by repeat (first|exact trivial|exact rfl|(refine And.intro ?_ ?_))) ?_)
      obtain ⟨hg44,h41⟩:=D6 h41
      refine U3 (l2:=[a2]) hg44 (y7 _) ?_
      refine q8 hn ?_
      refine A16 _ _ ?_
      exact jn ⟨_,sj h41⟩ []
     refine p9 hn ?_
     refine A16 _ _ ?_
     exact jn ⟨_,sj h41⟩ [(55,208)]
    rintro ⟨⟨v39,v40⟩,rfl⟩
    refine A13 _ _ ?_
    refine q8 hn ?_
    refine Exists.intro (List.map eMe [x25]) (And.intro (by repeat (first|exact trivial|exact rfl|(refine And.intro ?_ ?_))) ?_)
    obtain ⟨hg45,h31⟩:=D6 h31
    refine U3 (l2:=[x25]) hg45 (y7 _) ?_
    refine A11 _ _ ?_
    refine A10 _ _ ?_
    exact jn ⟨_,sj h31⟩ [(42,59)]
   rintro ⟨⟨v28,v29,v30⟩,rfl⟩
   refine A9 _ _ ?_
   refine q8 hn ?_
   refine Or.inl (And.intro (Z8 hx26 hl9) ?_)
   refine A6 _ _ ?_
   exact jn ⟨(rest22,k10+1,v28,v29,v30),hd2,h21⟩ [(208,42)] (by show rest22.length < rest22.length+1; omega)
 rintro ⟨⟨v17,v18,v19⟩,rfl⟩
 refine A3 _ _ ?_
 refine j5.seqQ fun _ A17 _ _=>?_
 refine j6 hn ?_
 obtain ⟨o48,h47,h⟩:=j4 h
 refine jk (ι:={ s // o48=s }) hn (fun s=>[(8,.own 66)]) (fun s=>[(66,.row 5 (List.map eMe s.1) 64)]) [(1,_),(3,_),(6,_),(10,_)] [(3,_),(6,_)] (fun _ A18 _ _=>?_) ?_
 ·refine l8 hn ?_
  refine l5 h47 (fun hb49 h47=>?_) (fun hb49 h47=>?_)
  ·refine q8 hn ?_
   refine Exists.intro (List.map eMe [a2]) (And.intro (by repeat (first|exact trivial|exact rfl|(refine And.intro ?_ ?_))) ?_)
   obtain ⟨hg50,h47⟩:=D6 h47
   refine U3 (l2:=[a2]) hg50 (y7 _) ?_
   refine A18 _ _ ?_
   exact jn ⟨_,sj h47⟩ []
  refine p9 hn ?_
  refine A18 _ _ ?_
  exact jn ⟨_,sj h47⟩ [(66,208)]
 rintro ⟨v46,hv_⟩
 replace hv_:=hv_.symm
 subst hv_
 refine A17 _ _ ?_
 refine j5.seqQ fun _ A19 _ R19=>?_
 refine j5.seqQ fun _ A20 _ _=>?_
 obtain ⟨o53,h52,h⟩:=j4 h
 refine jk (ι:={ s // o53=s }) hn (fun s=>[(78,.bool s.1)]) (fun s=>[]) [(1,_),(3,_),(6,_),(8,_)] [(3,_),(6,_),(66,_)] (fun _ A21 _ _=>?_) ?_
 ·refine q8 hn ?_
  refine l5 h52 (fun hb54 h52=>?_) (fun hb54 h52=>?_)
  ·refine j3 hb54 ?_
   refine j3 hb54 ?_
   refine j3 hb54 ?_
   obtain ⟨x55,hx56,h52⟩:=j4 h52
   refine N9 hx56 ?_
   refine j3 hb54 ?_
   refine j3 hb54 ?_
   refine j3 hb54 ?_
   refine z8 (fun _=>?_)
   refine j3 hb54 ?_
   refine j3 hb54 ?_
   refine A21 _ _ ?_
   exact jn ⟨_,sj h52⟩ []
  refine d9 hb54 ?_
  refine d9 hb54 ?_
  refine d9 hb54 ?_
  refine d9 hb54 ?_
  refine d9 hb54 ?_
  refine d9 hb54 ?_
  refine d9 hb54 ?_
  refine d9 hb54 ?_
  refine A21 _ _ ?_
  exact jn ⟨_,sj h52⟩ []
 rintro ⟨v51,hv_⟩
 replace hv_:=hv_.symm
 subst hv_
 refine A20 _ _ ?_
 refine l8 hn ?_
 refine l5 h (fun hb58 h=>?_) (fun hb58 h=>?_)
 ·refine j6 hn ?_
  refine got hn ?_
  refine R19 _ _ ?_
  obtain rfl:=Option.some.inj h
  exact ⟨[],_,fm⟩
 refine p9 hn ?_
 refine A19 _ _ ?_
 refine j6 hn ?_
 refine Or.inr ?_
 refine Exists.intro (List.map J4 ([]:List Cl)) (And.intro (by repeat (first|exact trivial|exact rfl|(refine And.intro ?_ ?_))) ?_)
 obtain ⟨hg59,h⟩:=D6 h
 refine U3 (l2:=a0.classes) hg59 (y7 _) ?_
 refine j5.fzAll 66 rfl ?_
 refine kp [(1,_),(3,_),(6,_),(8,_)] [(3,_),(6,_),(83,_)] ?_
 refine j6 hn ?_
 obtain ⟨x60,hx61,h⟩:=j4 h
 refine Y3 hx61 ?_
 refine V5 (y9 hx61).2 ?_
 refine Exists.intro (List.map J4 ((([]:List Cl)++a0.classes).set a1.toNat (⟨x60.name,x60.super,x60.slots,v46⟩:Cl))) (And.intro (aM9 (y9 hx61).2 (by repeat (first|exact trivial|exact rfl|(refine And.intro ?_ ?_)))) ?_)
 refine j6 hn ?_
 refine Or.inr ?_
 refine j6 hn ?_
 refine j5.fzAll 83 rfl ?_
 refine got hn ?_
 obtain rfl:=Option.some.inj h
 exact ⟨[],_,fm⟩

/- qclaw8.world -/
set_option maxRecDepth 100000 in
set_option maxHeartbeats 8000000 in
theorem bI5 (N:Nat) (r:Wd) (h:aV9 N =some r):Spec Try.prog 56 [] [] (.agg (eWd r)) [] []:=by
 refine Spec.of C9 Try.func56 rfl Try.ntmps56 (by kernel_rfl) rfl rfl rfl fun Γ hn=>?_
 unfold aV9 at h
 refine j6 hn ?_
 refine j6 hn ?_
 obtain ⟨r1,hr2,h⟩:=j4 h
 show l7 Try.prog _ _ _ _
 refine cA (bP6 N  r1 hr2) ?_
 obtain ⟨r3,hr4,h⟩:=j4 h
 show l7 Try.prog _ _ _ _
 refine cA (b95 N r1 (⟨#[65]⟩:ByteArray) (0:Int) (0:Int) r3 hr4) ?_
 refine j6 hn ?_
 refine Exists.intro (List.map aK6 [(⟨(5:Int),(1:Int),(0:Int),(0:Int),ByteArray.empty⟩:Ins),(⟨(2:Int),(0:Int),(0:Int),(0:Int),ByteArray.empty⟩:Ins),(⟨(14:Int),(1:Int),(0:Int),(0:Int),(⟨#[43]⟩:ByteArray)⟩:Ins),(⟨(17:Int),(0:Int),(0:Int),(0:Int),ByteArray.empty⟩:Ins)]) (And.intro (by repeat (first|exact trivial|exact rfl|(refine And.intro ?_ ?_))) ?_)
 obtain ⟨r5,hr6,h⟩:=j4 h
 show l7 Try.prog _ _ _ _
 refine cF (bX4 N r3.1 r3.2.1 (⟨(⟨#[109]⟩:ByteArray),(1:Int),(0:Int),(0:Int),[(⟨(5:Int),(1:Int),(0:Int),(0:Int),ByteArray.empty⟩:Ins),(⟨(2:Int),(0:Int),(0:Int),(0:Int),ByteArray.empty⟩:Ins),(⟨(14:Int),(1:Int),(0:Int),(0:Int),(⟨#[43]⟩:ByteArray)⟩:Ins),(⟨(17:Int),(0:Int),(0:Int),(0:Int),ByteArray.empty⟩:Ins)]⟩:Me) r5 hr6) ?_
 refine kp [(0,_),(1,_),(2,_)] [(0,_),(1,_)] ?_
 refine j6 hn ?_
 refine Or.inr ?_
 refine Exists.intro (List.map H6 [(⟨r3.2.1,[]⟩:Ob)]) (And.intro (by repeat (first|exact trivial|exact rfl|(refine And.intro ?_ ?_))) ?_)
 refine j6 hn ?_
 refine j5.fzAll 24 rfl ?_
 refine got hn ?_
 obtain rfl:=Option.some.inj h
 exact ⟨[],_,fm⟩

/- qclaw8.call -/
set_option maxRecDepth 100000 in
set_option maxHeartbeats 8000000 in
theorem bK3 (N:Nat) (a0:Int) (r:K7) (h:a06 N a0=some r):Spec Try.prog 57 [] [.int a0] (.agg (aX3 r)) [] []:=by
 refine Spec.of C9 Try.func57 rfl Try.ntmps57 (by kernel_rfl) rfl rfl rfl fun Γ hn=>?_
 unfold a06 at h
 refine j6 hn ?_
 refine j6 hn ?_
 refine Exists.intro (List.map eV [(⟨(3:Int),a0⟩:V)]) (And.intro (by repeat (first|exact trivial|exact rfl|(refine And.intro ?_ ?_))) ?_)
 refine j5.fzAll 6 rfl ?_
 refine got hn ?_
 obtain rfl:=Option.some.inj h
 exact ⟨[],_,fm⟩

/- qclaw8.alive -/
set_option maxRecDepth 100000 in
set_option maxHeartbeats 8000000 in
theorem b30 (N:Nat) (r:Bool) (h:aQ9 N =some r):Spec Try.prog 20 [] [] (.bool r) [] []:=by
 refine Spec.of C9 Try.func20 rfl Try.ntmps20 (by kernel_rfl) rfl rfl rfl fun Γ hn=>?_
 unfold aQ9 at h
 refine j6 hn ?_
 refine j6 hn ?_
 obtain ⟨r1,hr2,h⟩:=j4 h
 show l7 Try.prog _ _ _ _
 refine cA (bI5 N  r1 hr2) ?_
 obtain ⟨r3,hr4,h⟩:=j4 h
 show l7 Try.prog _ _ _ _
 refine cA (bK3 N (4:Int) r3 hr4) ?_
 obtain ⟨r5,hr6,h⟩:=j4 h
 show l7 Try.prog _ _ _ _
 refine cA (bB1 N r1 r3 (10:Int) [] [] r5 hr6) ?_
 refine j5.seqQ fun _ A0 _ _=>?_
 refine J7 hn (by kernel_rfl) ?_
 obtain ⟨r7,hr8,h⟩:=j4 h
 show l7 Try.prog _ _ _ _
 refine cA (bI5 N  r7 hr8) ?_
 obtain ⟨r9,hr10,h⟩:=j4 h
 show l7 Try.prog _ _ _ _
 refine cA (bK3 N (5:Int) r9 hr10) ?_
 obtain ⟨r11,hr12,h⟩:=j4 h
 show l7 Try.prog _ _ _ _
 refine cA (bB1 N r7 r9 (10:Int) r5.cells r5.tallies r11 hr12) ?_
 refine A0 _ _ ?_
 refine j5.seqQ fun _ A1 _ _=>?_
 obtain ⟨o15,h14,h⟩:=j4 h
 refine jk (ι:={ s // o15=s }) hn (fun s=>[(0,.bool s.1)]) (fun s=>[]) [] [] (fun _ A2 _ _=>?_) ?_
 ·refine q8 hn ?_
  refine l5 h14 (fun hb16 h14=>?_) (fun hb16 h14=>?_)
  ·refine j3 hb16 ?_
   refine j3 hb16 ?_
   refine j3 hb16 ?_
   refine l5 h14 (fun hb17 h14=>?_) (fun hb17 h14=>?_)
   ·refine j3 hb17 ?_
    refine j3 hb17 ?_
    refine j3 hb17 ?_
    refine l5 h14 (fun hb18 h14=>?_) (fun hb18 h14=>?_)
    ·refine j3 hb18 ?_
     refine j3 hb18 ?_
     refine j3 hb18 ?_
     refine j3 hb18 ?_
     refine j3 hb18 ?_
     refine l5 h14 (fun hb19 h14=>?_) (fun hb19 h14=>?_)
     ·refine j3 hb19 ?_
      refine j3 hb19 ?_
      refine j3 hb19 ?_
      refine l5 h14 (fun hb20 h14=>?_) (fun hb20 h14=>?_)
      ·refine j3 hb20 ?_
       refine j3 hb20 ?_
       refine j3 hb20 ?_
       refine l5 h14 (fun hb21 h14=>?_) (fun hb21 h14=>?_)
       ·refine j3 hb21 ?_
        refine j3 hb21 ?_
        refine z8 (fun _=>?_)
        refine j3 hb21 ?_
        refine j3 hb21 ?_
        refine l5 h14 (fun hb23 h14=>?_) (fun hb23 h14=>?_)
        ·refine j3 hb23 ?_
         refine j3 hb23 ?_
         refine z8 (fun _=>?_)
         refine j3 hb23 ?_
         refine j3 hb23 ?_
         refine A2 _ _ ?_
         exact jn ⟨_,sj h14⟩ []
        refine d9 hb23 ?_
        refine d9 hb23 ?_
        refine d9 hb23 ?_
        refine d9 hb23 ?_
        refine A2 _ _ ?_
        exact jn ⟨_,sj h14⟩ []
       refine d9 hb21 ?_
       refine d9 hb21 ?_
       refine d9 hb21 ?_
       refine d9 hb21 ?_
       refine A2 _ _ ?_
       exact jn ⟨_,sj h14⟩ []
      refine d9 hb20 ?_
      refine d9 hb20 ?_
      refine d9 hb20 ?_
      refine A2 _ _ ?_
      exact jn ⟨_,sj h14⟩ []
     refine d9 hb19 ?_
     refine d9 hb19 ?_
     refine d9 hb19 ?_
     refine A2 _ _ ?_
     exact jn ⟨_,sj h14⟩ []
    refine d9 hb18 ?_
    refine d9 hb18 ?_
    refine d9 hb18 ?_
    refine d9 hb18 ?_
    refine d9 hb18 ?_
    refine A2 _ _ ?_
    exact jn ⟨_,sj h14⟩ []
   refine d9 hb17 ?_
   refine d9 hb17 ?_
   refine d9 hb17 ?_
   refine A2 _ _ ?_
   exact jn ⟨_,sj h14⟩ []
  refine d9 hb16 ?_
  refine d9 hb16 ?_
  refine d9 hb16 ?_
  refine A2 _ _ ?_
  exact jn ⟨_,sj h14⟩ []
 rintro ⟨v13,hv_⟩
 replace hv_:=hv_.symm
 subst hv_
 refine A1 _ _ ?_
 refine got hn ?_
 obtain rfl:=Option.some.inj h
 exact ⟨[],_,fm⟩

/- qclaw8.CachedSame -/
set_option maxRecDepth 100000 in
set_option maxHeartbeats 8000000 in
theorem bO2 (N:Nat) (a0:Wd) (a1:(List K7)) (r:Bool) (h:aL2 N a0 a1=some r):Spec Try.prog 5 [] [.agg (eWd a0),.sl 4 (List.map aX3 a1)] (.bool r) [] []:=by
 refine Spec.of C9 Try.func5 rfl Try.ntmps5 (by kernel_rfl) rfl rfl rfl fun Γ hn=>?_
 unfold aL2 at h
 refine j6 hn ?_
 refine j5.seqQ fun _ A0 _ R0=>?_
 refine j6 hn ?_
 obtain ⟨r1,hr2,h⟩:=j4 h
 show l7 Try.prog _ _ _ _
 refine cA (b30 N  r1 hr2) ?_
 refine l8 hn ?_
 refine l5 h (fun hb3 h=>?_) (fun hb3 h=>?_)
 ·refine j6 hn ?_
  refine got hn ?_
  refine R0 _ _ ?_
  obtain rfl:=Option.some.inj h
  exact ⟨[],_,fm⟩
 refine p9 hn ?_
 refine A0 _ _ ?_
 refine j5.seqQ fun _ A1 _ R1=>?_
 refine j6 hn ?_
 obtain ⟨r4,hr5,h⟩:=j4 h
 show l7 Try.prog _ _ _ _
 refine cA (b56 N a0 r4 hr5) ?_
 refine l8 hn ?_
 refine l5 h (fun hb6 h=>?_) (fun hb6 h=>?_)
 ·refine j6 hn ?_
  refine got hn ?_
  refine R1 _ _ ?_
  obtain rfl:=Option.some.inj h
  exact ⟨[],_,fm⟩
 refine p9 hn ?_
 refine A1 _ _ ?_
 refine j6 hn ?_
 refine j6 hn ?_
 refine j6 hn ?_
 refine j5.seqQ fun _ A2 _ R2=>?_
 refine j6 hn ?_
 refine z8 (fun hl7=>?_)
 obtain ⟨o15,h16,h⟩:=j4 h
 refine jk (ι:={ s // o15=D5.next s }) hn (fun s=>[]) (fun s=>[]) [] [] (fun _ A3 _ R3=>?_) ?_
 ·refine j5.blkQ fun _ _ E4 _ R4=>?_
  refine lq (ι:={ q:((List K7)×Nat×(List Ce)×(List Tl)×Wd) // q.1=a1.drop q.2.1∧Q5 N q.1 q.2.1 q.2.2.1 q.2.2.2.1 q.2.2.2.2=some o15 }) hn (fun q=>[(5,.sl 6 (List.map eCe q.1.2.2.1)),(6,.sl 4 (List.map eTl q.1.2.2.2.1)),(22,.int (q.1.2.1:Int))]) (fun q=>[(7,.box (eWd q.1.2.2.2.2) 37)]) (fun q=>q.1.1.length) [(7,_),(20,_),(21,_)] [] ⟨(a1,0,[],[],a0),rfl,h16⟩ [] ?_
  rintro ⟨⟨rest_,k8,v9,v10,v11⟩,hd18,h16⟩ _ A5 X5 R5
  replace hd18:rest_=a1.drop k8:=hd18
  rcases rest_ with _|⟨x20,rest17⟩
  ·have hlt22:=J5 hd18
   replace h16:=(Q5.eq_1 _ _ _ _ _).symm.trans h16
   refine j6 hn ?_
   refine j5.seqQ fun _ _ X6 _=>?_
   refine l8 hn ?_
   refine d9 hlt22 ?_
   refine F7 hn ?_
   refine X6 _ _ _ ?_
   refine X5 _ _ _ ?_
   refine E4 _ _ ?_
   refine A3 _ _ ?_
   exact jn ⟨_,sj h16⟩ []
  ·obtain ⟨hx21,hd2,hlt22⟩:=F9 hd18
   replace h16:=(Q5.eq_2 _ _ _ _ _ _ _).symm.trans h16
   refine j6 hn ?_
   refine j5.seqQ fun _ A7 _ _=>?_
   refine l8 hn ?_
   refine j3 hlt22 ?_
   refine p9 hn ?_
   refine A7 _ _ ?_
   refine j5.seqQ fun _ A8 _ R8=>?_
   refine j5.blkQ fun _ A9 _ _ R9=>?_
   refine j6 hn ?_
   refine aC1 hx21 ?_
   refine j6 hn ?_
   obtain ⟨r23,hr24,h16⟩:=j4 h16
   show l7 Try.prog _ _ _ _
   refine cA (bB1 N v11 x20 (400:Int) v9 v10 r23 hr24) ?_
   refine j6 hn ?_
   obtain ⟨r25,hr26,h16⟩:=j4 h16
   show l7 Try.prog _ _ _ _
   refine cA (cE3 N v11 x20 (400:Int) r25 hr26) ?_
   refine j5.seqQ fun _ A10 _ R10=>?_
   refine j5.seqQ fun _ A11 _ _=>?_
   obtain ⟨o29,h28,h16⟩:=j4 h16
   refine jk (ι:={ s // o29=s }) hn (fun s=>[(48,.bool s.1)]) (fun s=>[]) [(7,_),(10,_),(11,_),(20,_),(21,_),(22,_)] [(7,_),(10,_),(11,_)] (fun _ A12 _ _=>?_) ?_
   ·refine kp [(7,_),(10,_),(11,_),(12,_),(20,_),(21,_),(22,_)] [(7,_),(10,_),(11,_),(12,_)] ?_
    refine q8 hn ?_
    refine l5 h28 (fun hb30 h28=>?_) (fun hb30 h28=>?_)
    ·refine j3 hb30 ?_
     refine j3 hb30 ?_
     refine j3 hb30 ?_
     refine j3 hb30 ?_
     refine j3 hb30 ?_
     refine A12 _ _ ?_
     exact jn ⟨_,sj h28⟩ []
    refine d9 hb30 ?_
    refine d9 hb30 ?_
    refine d9 hb30 ?_
    obtain ⟨r31,hr32,h28⟩:=j4 h28
    show l7 Try.prog _ _ _ _
    refine cA (bR4 N r23.world r25.1 r31 hr32) ?_
    refine d9 hb30 ?_
    refine d9 hb30 ?_
    refine A12 _ _ ?_
    exact jn ⟨_,sj h28⟩ []
   rintro ⟨v27,hv_⟩
   replace hv_:=hv_.symm
   subst hv_
   refine A11 _ _ ?_
   refine l8 hn ?_
   refine l5 h16 (fun hb33 h16=>?_) (fun hb33 h16=>?_)
   ·refine j6 hn ?_
    refine got hn ?_
    refine R10 _ _ ?_
    refine R9 _ _ ?_
    refine R8 _ _ ?_
    refine R5 _ _ ?_
    refine R4 _ _ ?_
    refine R3 _ _ ?_
    refine R2 _ _ ?_
    obtain rfl:=Option.some.inj h16
    obtain rfl:=Option.some.inj h
    exact ⟨[],_,fm⟩
   refine p9 hn ?_
   refine A10 _ _ ?_
   refine J7 hn (by kernel_rfl) ?_
   refine A9 _ _ ?_
   refine A8 _ _ ?_
   refine q8 hn ?_
   refine Or.inl (And.intro (Z8 hx21 hl7) ?_)
   refine A5 _ _ ?_
   exact jn ⟨(rest17,k8+1,r23.cells,r23.tallies,r25.1),hd2,h16⟩ [] (by show rest17.length < rest17.length+1; omega)
 rintro ⟨⟨⟩,rfl⟩
 refine A2 _ _ ?_
 refine j6 hn ?_
 refine got hn ?_
 obtain rfl:=Option.some.inj h
 exact ⟨[],_,fm⟩
end Go.Proofs.Ytahmeibkdhbngaa
