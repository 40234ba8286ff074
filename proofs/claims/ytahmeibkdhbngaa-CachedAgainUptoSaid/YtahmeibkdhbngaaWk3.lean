/- Walks after the mirrors. Printed by mir.py. -/
import Derived.Test.YtahmeibkdhbngaaWk2
namespace Go.Proofs.Ytahmeibkdhbngaa
open Go.RowKit
set_option linter.unusedVariables false
/- slices.IndexFunc[[]api.Tally,api.Tally] -/
set_option maxRecDepth 100000 in
set_option maxHeartbeats 8000000 in
theorem aI8 (N:Nat) (a0:(List Tl)) (g1:Tl→Option Bool) {K1:Nat} {c1_0:List AV} (hg1:∀x0_ y_,g1 x0_=some y_→Spec Try.prog K1 [] [.agg (eTl x0_),.fp c1_0] (.bool y_) [] []) (r:Int) (h:K6 N a0 g1=some r):Spec Try.prog 83 [] [.sl 4 (List.map eTl a0),.fn K1 [.fp c1_0]] (.int r) [] []:=by
 refine Spec.of z8 Try.func83 rfl Try.ntmps83 (by kernel_rfl) rfl rfl rfl fun Γ hn=>?_
 unfold K6 at h
 refine j6 hn ?_
 refine j5.seqQ fun _ A0 _ R0=>?_
 refine j6 hn ?_
 refine D5 (fun hl1=>?_)
 obtain ⟨o3,h4,h⟩:=j4 h
 refine jk (ι:={ s // o3=D9.next s }) hn (fun s=>[]) (fun s=>[]) [] [] (fun _ A1 _ R1=>?_) ?_
 ·refine j5.blkQ fun _ _ E2 _ R2=>?_
  refine lq (ι:={ q:((List Tl)×Nat) // q.1=a0.drop q.2∧D7 N g1 q.1 q.2=some o3 }) hn (fun q=>[(8,.int (q.1.2:Int))]) (fun q=>[]) (fun q=>q.1.1.length) [(0,_),(1,_),(7,_)] [] ⟨(a0,0),rfl,h4⟩ [] ?_
  rintro ⟨⟨rest_,k2⟩,hd6,h4⟩ _ A3 X3 R3
  replace hd6:rest_=a0.drop k2:=hd6
  rcases rest_ with _|⟨x8,rest5⟩
  ·have hlt10:=N9 hd6
   replace h4:=(D7.eq_1 _ _ _).symm.trans h4
   refine j6 hn ?_
   refine j5.seqQ fun _ _ X4 _=>?_
   refine p8 hn ?_
   refine d9 hlt10 ?_
   refine F6 hn ?_
   refine X4 _ _ _ ?_
   refine X3 _ _ _ ?_
   refine E2 _ _ ?_
   refine A1 _ _ ?_
   exact jn ⟨_,sj h4⟩ []
  ·obtain ⟨hx9,hd2,hlt10⟩:=H9 hd6
   replace h4:=(D7.eq_2 _ _ _ _ _).symm.trans h4
   refine j6 hn ?_
   refine j5.seqQ fun _ A5 _ _=>?_
   refine p8 hn ?_
   refine j3 hlt10 ?_
   refine p9 hn ?_
   refine A5 _ _ ?_
   refine j5.seqQ fun _ A6 _ R6=>?_
   refine j5.blkQ fun _ A7 _ _ R7=>?_
   refine j6 hn ?_
   refine j6 hn ?_
   refine aJ1 hx9 ?_
   obtain ⟨r11,hr12,h4⟩:=j4 h4
   show l8 Try.prog _ _ _ _
   refine cA (hg1 _ _ hr12) ?_
   refine p8 hn ?_
   refine l5 h4 (fun hb13 h4=>?_) (fun hb13 h4=>?_)
   ·refine j6 hn ?_
    refine got hn ?_
    refine R7 _ _ ?_
    refine R6 _ _ ?_
    refine R3 _ _ ?_
    refine R2 _ _ ?_
    refine R1 _ _ ?_
    refine R0 _ _ ?_
    obtain rfl:=Option.some.inj h4
    obtain rfl:=Option.some.inj h
    exact ⟨[],_,fm⟩
   refine p9 hn ?_
   refine A7 _ _ ?_
   refine A6 _ _ ?_
   refine q8 hn ?_
   refine Or.inl (And.intro (aE3 hx9 hl1) ?_)
   refine A3 _ _ ?_
   exact jn ⟨(rest5,k2+1),hd2,h4⟩ [] (by show rest5.length < rest5.length+1; omega)
 rintro ⟨⟨⟩,rfl⟩
 refine A0 _ _ ?_
 refine j6 hn ?_
 refine got hn ?_
 obtain rfl:=Option.some.inj h
 exact ⟨[],_,fm⟩

/- tally.Add$1 -/
set_option maxRecDepth 100000 in
set_option maxHeartbeats 8000000 in
theorem b33 (N:Nat) (a0:Tl) (b0:St) (r:Bool) (h:aL1 N a0 b0=some r):Spec Try.prog 84 [] [.agg (eTl a0),.fp (eSt b0)] (.bool r) [] []:=by
 refine Spec.of z8 Try.func84 rfl Try.ntmps84 (by kernel_rfl) rfl rfl rfl fun Γ hn=>?_
 unfold aL1 at h
 refine j6 hn ?_
 refine j6 hn ?_
 refine got hn ?_
 obtain rfl:=Option.some.inj h
 exact ⟨[],_,fm⟩

/- tally.Add$2 -/
set_option maxRecDepth 100000 in
set_option maxHeartbeats 8000000 in
theorem bY2 (N:Nat) (a0:Ln) (b0:Int) (r:Bool) (h:aL4 N a0 b0=some r):Spec Try.prog 85 [] [.agg (K7 a0),.fp [.int b0]] (.bool r) [] []:=by
 refine Spec.of z8 Try.func85 rfl Try.ntmps85 (by kernel_rfl) rfl rfl rfl fun Γ hn=>?_
 unfold aL4 at h
 refine j6 hn ?_
 refine j6 hn ?_
 refine got hn ?_
 obtain rfl:=Option.some.inj h
 exact ⟨[],_,fm⟩

/- tally.Add -/
theorem cS0 (N:Nat) {l:List Ln} (h:Fit l.length 16):M4 N l=some l:=by
  unfold M4
  rw [show Nat.ble (l.length*16) 140737488355328=true from Nat.ble_eq_true_of_le h]
  rfl
def aF7 (t:Tl):List AV:=[.int t.site.cls,.str t.site.name,.int t.site.pos]
def nTl (t:Tl):List AV×List (List AV):=(aF7 t,t.classes.map K7)
set_option maxRecDepth 100000 in
theorem b72 (N:Nat) (l:List Tl) (hf:Fit l.length 56) (hf2:∀t∈l,Fit t.classes.length 16):Spec Try.prog 46 [] [.sl 4 (l.map eTl)] (.nst 0) [(0,.nest 4 113 2 91 (l.map nTl))] [0]:=by
  refine Spec.of z8 Try.func46 rfl Try.ntmps46 (by kernel_rfl) rfl rfl rfl fun Γ hn=>?_
  (repeat (first|refine j6 hn ?_|refine q8 hn ?_|refine L8 hn ?_|refine p8 hn ?_|refine F6 hn ?_|refine p9 hn ?_|refine got hn ?_))
  refine D5 (fun hlen=>?_)
  (repeat (first|refine j6 hn ?_|refine q8 hn ?_|refine L8 hn ?_|refine p8 hn ?_|refine F6 hn ?_|refine p9 hn ?_|refine got hn ?_))
  refine j5.nilrow 3 3 4 113 rfl rfl rfl ?_
  refine j5.gh (Gh.pins0 100 2 91 rfl rfl) (fun _=>?_)
  refine j5.loop (ι:={p:Nat×List (Hd×List AV×List (List AV)) // p.1≤l.length∧p.2.map (·.2)=(l.take p.1).map nTl}) (fun p=>[(6,.sl 4 (l.map eTl)),(7,.int l.length),(8,.int p.1.1),(3,.own 3)])
    (fun p=>[(3,.row 4 (y7 p.1.2) 113),(100,.pins 2 (M8 p.1.2) 91)]) (fun p=>l.length - p.1.1) ⟨(0,[]),by omega,rfl⟩ [] ?_ ?_ ?_
  · exact ⟨⟨rfl,rfl,rfl,rfl,trivial⟩,⟨rfl,rfl,trivial⟩,rfl,rfl⟩
  · intro k; rw [hn]; rfl
  rintro ⟨⟨k,z⟩,hk,hz⟩
  have hk:k≤l.length:=hk
  have hz:z.map (·.2)=(l.take k).map nTl:=hz
  (repeat (first|refine j6 hn ?_|refine q8 hn ?_|refine L8 hn ?_|refine p8 hn ?_|refine F6 hn ?_|refine p9 hn ?_|refine got hn ?_))
  refine aH5 (fun hlt=>?_) (fun hge=>?_)
  · have hlt:k < l.length:=by have:(k:Int) < (l.length:Int):=hlt; omega
    (repeat (first|refine j6 hn ?_|refine q8 hn ?_|refine L8 hn ?_|refine p8 hn ?_|refine F6 hn ?_|refine p9 hn ?_|refine got hn ?_))
    refine And.intro (by omega) (And.intro (by simpa using hlt) ?_)
    intro cs hcs hrng
    obtain ⟨x,hx,rfl⟩:=c81 hcs
    have hx:l[k]?=some x:=hx
    (repeat (first|refine j6 hn ?_|refine q8 hn ?_|refine L8 hn ?_|refine p8 hn ?_|refine F6 hn ?_|refine p9 hn ?_|refine got hn ?_))
    show l8 Try.prog _ _ _ _; refine l8.as ((aH3 N x.classes x.classes (cS0 N (hf2 x (List.mem_of_getElem? hx)))).sw 0 14) (by first|exact aD5 rfl|((repeat (refine And.intro rfl ?_)); exact trivial)) (by (repeat (refine And.intro rfl ?_)); exact trivial) rfl ?_
    refine j5.gh (Gh.pinB 5 3 14 100 rfl rfl rfl rfl rfl rfl rfl) (fun h=>?_)
    (repeat (first|refine j6 hn ?_|refine q8 hn ?_|refine L8 hn ?_|refine p8 hn ?_|refine F6 hn ?_|refine p9 hn ?_|refine got hn ?_))
    refine Exists.intro [[.int x.site.cls,.str x.site.name,.int x.site.pos,.con h.v]] (And.intro (by repeat (first|exact trivial|exact rfl|(refine And.intro ?_ ?_))) ?_)
    have hzl:(y7 z).length=k:=by
      have:=bD9 hz
      rw [List.length_take] at this
      simp only [y7,List.length_map]
      omega
    refine And.intro ?_ (Exists.intro (y7 (z++[(h,nTl x)])) (And.intro (by rw [bB7]; exact D8 _) ?_))
    · show ((y7 z).length+1)*56≤_
      rw [hzl]
      exact Nat.le_trans (Nat.mul_le_mul_right 56 hlt) hf
    (repeat (first|refine j6 hn ?_|refine q8 hn ?_|refine L8 hn ?_|refine p8 hn ?_|refine F6 hn ?_|refine p9 hn ?_|refine got hn ?_))
    refine Or.inl (And.intro (bT9 hlt hlen) ?_)
    have hz2:(z++[(h,nTl x)]).map (·.2)=(l.take (k+1)).map nTl:=by
      rw [b53 hx,List.map_append,List.map_append,show z.map (·.2)=(l.take k).map nTl from hz]
      rfl
    refine ⟨⟨(k+1,z++[(h,nTl x)]),hlt,hz2⟩,[(3,19)],by show l.length - (k+1) < l.length - k; omega,⟨⟨rfl,rfl,rfl,rfl,trivial⟩,⟨rfl,?_,trivial⟩,rfl,rfl⟩⟩
    · exact congrArg (fun q=>some (Obj.pins 2 q 91)) (bH9 z (h,nTl x)).symm
  · have e:k=l.length:=by have:¬(k:Int) < (l.length:Int):=hge; omega
    subst e
    have hz:z.map (·.2)=l.map nTl:=by
      have:z.map (·.2)=(l.take l.length).map nTl:=hz
      rwa [List.take_length] at this
    refine F6 hn ?_
    show j5 Try.prog Γ _ _ _ _; refine j5.gh (Gh.close 3 3 100 101 z rfl rfl rfl rfl rfl hz rfl rfl rfl rfl rfl) ?_
    intro _
    (repeat (first|refine j6 hn ?_|refine q8 hn ?_|refine L8 hn ?_|refine p8 hn ?_|refine F6 hn ?_|refine p9 hn ?_|refine got hn ?_))
    exact ⟨[(0,101)],_,rfl,rfl,⟨rfl,trivial⟩,rfl,rfl,rfl,rfl,rfl⟩
theorem cC4 (l:List Tl):aC2 2 (l.map nTl)=l.map eTl:=by simp [aC2,nTl,aF7,eTl]
theorem cP3 (N:Nat) (s:St):∀(l:List Tl) (k:Nat),D7 N (fun x=>aL1 N x s) l k=some (match l.findIdx? (fun t=>decide (t.site=s)) with|some i=>.ret ((k+i:Nat):Int)|none=>.next ())
  |[],k=>rfl
  |x::l,k=>by
    rw [D7,aR8,cP3 N s l (k+1)]
    unfold aL1
    rw [show aF1 (eSt x.site) (eSt s)=decide (x.site=s) from cS3 x.site s]
    by_cases e:x.site=s
    · simp [e]
    · cases l.findIdx? (fun t=>decide (t.site=s))<;>simp [e]; omega
theorem ixT (N:Nat) (s:St) (l:List Tl):K6 N l (fun x=>aL1 N x s)=some (ixf (fun t=>decide (t.site=s)) l):=by
  unfold K6 ixf
  rw [cP3]
  cases l.findIdx? (fun t=>decide (t.site=s))<;>simp
theorem cO0 (N:Nat) (c:Int):∀(l:List Ln) (k:Nat),y9 N (fun x=>aL4 N x c) l k=some (match l.findIdx? (fun t=>decide (t.cls=c)) with|some i=>.ret ((k+i:Nat):Int)|none=>.next ())
  |[],k=>rfl
  |x::l,k=>by
    rw [y9,aR8,cO0 N c l (k+1)]
    unfold aL4
    by_cases e:x.cls=c
    · simp [e]
    · cases l.findIdx? (fun t=>decide (t.cls=c))<;>simp [e]; omega
theorem ixL (N:Nat) (c:Int) (l:List Ln):G7 N l (fun x=>aL4 N x c)=some (ixf (fun t=>decide (t.cls=c)) l):=by
  unfold G7 ixf
  rw [cO0]
  cases l.findIdx? (fun t=>decide (t.cls=c))<;>simp
set_option maxRecDepth 100000 in
theorem cF4 (N:Nat) (l:List Tl) (s:St) (c:Int) (r:List Tl) (h:aY4 N l s c=some r):Spec Try.prog 49 [] [.sl 4 (l.map eTl),.agg (eSt s),.int c] (.own 0) [(0,.row 4 (r.map eTl) 113)] [0]:=by
  unfold aY4 at h
  obtain ⟨hg,h⟩:=G5 h
  obtain rfl:=Option.some.inj h
  rw [Bool.and_eq_true,List.all_eq_true] at hg
  have hf:Fit (l.length+1) 56:=Nat.le_of_ble_eq_true hg.1
  have hf2:∀t∈l,Fit (t.classes.length+1) 16:=fun t ht=>Nat.le_of_ble_eq_true (hg.2 t ht)
  clear h hg
  refine Spec.of z8 Try.func49 rfl Try.ntmps49 (by kernel_rfl) rfl rfl rfl fun Γ hn=>?_
  refine j6 hn ?_
  show j5 Try.prog Γ _ _ _ _; refine j5.gh (Gh.fzBox 4 4 rfl rfl rfl) ?_
  intro _
  show j5 Try.prog Γ _ _ _ _; refine j5.gh (Gh.fzBox 5 5 rfl rfl rfl) ?_
  intro _
  (repeat (first|refine j6 hn ?_|refine q8 hn ?_|refine L8 hn ?_|refine p8 hn ?_|refine F6 hn ?_|refine p9 hn ?_|refine got hn ?_))
  show l8 Try.prog _ _ _ _; refine l8.as ((b72 N l (Nat.le_trans (Nat.mul_le_mul_right _ (Nat.le_succ _)) hf) (fun t ht=>Nat.le_trans (Nat.mul_le_mul_right _ (Nat.le_succ _)) (hf2 t ht))).sw 0 11) (by first|exact aD5 rfl|((repeat (refine And.intro rfl ?_)); exact trivial)) (by (repeat (refine And.intro rfl ?_)); exact trivial) rfl ?_
  (repeat (first|refine j6 hn ?_|refine q8 hn ?_|refine L8 hn ?_|refine p8 hn ?_|refine F6 hn ?_|refine p9 hn ?_|refine got hn ?_))
  show l8 Try.prog _ _ _ _
  refine l8.lend (aI8 N l (fun x=>aL1 N x s) (fun x y hy=>b33 N x s y hy) _ (ixT N s l)) ?_ rfl ?_
  · show aG1 [.sl 4 (aC2 2 (l.map nTl)),.fn 84 [.fp (eSt s)]] _
    rw [cC4]
    exact aD5 rfl
  show j5 Try.prog Γ _ _ _ _; refine j5.gh (Gh.open 7 11 102 103 rfl rfl rfl rfl rfl rfl (fun _=>rfl)) ?_
  rintro ⟨z,hz⟩
  refine j5.cut (ι:={ q:Nat×Tl×Hd×List (Hd×List AV×List (List AV)) // q.2.2.2[q.1]?=some (q.2.2.1,nTl q.2.1)∧q.2.2.2.map (·.2)=(ixd (fun t=>decide (t.site=s)) ⟨s,[]⟩ l).1.map nTl∧(ixd (fun t=>decide (t.site=s)) ⟨s,[]⟩ l).1[q.1]?=some q.2.1∧(ixd (fun t=>decide (t.site=s)) ⟨s,[]⟩ l).2=q.1∧Fit (q.2.1.classes.length+1) 16 })
    (fun q=>[(7,.own 102),(8,.int q.1.1),(5,.fp [.int c])]) (fun q=>[(102,.row 4 (y7 q.1.2.2.2) 113),(103,.pins 2 ((M8 q.1.2.2.2).eraseIdx q.1.1) 91),(104,.row 2 (q.1.2.1.classes.map K7) 91),(105,.eqv 104 q.1.2.2.1.v)]) ?_ ?_ ?_
  · (repeat (first|refine j6 hn ?_|refine q8 hn ?_|refine L8 hn ?_|refine p8 hn ?_|refine F6 hn ?_|refine p9 hn ?_|refine got hn ?_))
    rcases bP1 (fun t:Tl=>decide (t.site=s)) l with ⟨k,x,e1,e2,e3,e4⟩|⟨e1,e2⟩
    · refine aH5 (fun hlt=>?_) (fun hge=>?_)
      · rw [e1] at hlt; omega
      · obtain ⟨h,hz1⟩:=cP7 hz e2
        have hp:(M8 z).Perm ((h,x.classes.map K7)::(M8 z).eraseIdx k):=by
          have hk:(M8 z)[k]?=some (h,x.classes.map K7):=by simp [M8,hz1,nTl]
          obtain ⟨hl,hv⟩:=List.getElem?_eq_some_iff.1 hk
          rw [←hv]
          exact (List.getElem_cons_eraseIdx_perm' hl).symm
        show j5 Try.prog Γ _ _ _ _; refine j5.gh (Gh.unpin 103 104 105 rfl hp rfl rfl rfl rfl rfl) ?_
        intro _
        refine p9 hn ?_
        have ex:ixd (fun t:Tl=>decide (t.site=s)) ⟨s,[]⟩ l=(l,k):=by unfold ixd; rw [e4]
        refine ⟨⟨(k,x,h,z),hz1,by rw [ex]; exact hz,by rw [ex]; exact e2,by rw [ex],hf2 x (List.mem_of_getElem? e2)⟩,[],⟨⟨rfl,congrArg AV.int e1,rfl,trivial⟩,⟨rfl,rfl,rfl,rfl,trivial⟩,rfl,rfl⟩⟩
    · refine aH5 (fun hlt=>?_) (fun hge=>?_)
      · (repeat (first|refine j6 hn ?_|refine q8 hn ?_|refine L8 hn ?_|refine p8 hn ?_|refine F6 hn ?_|refine p9 hn ?_|refine got hn ?_))
        rintro _ rfl hlen
        refine j5.ops (goo hn 6 ?_)
        refine Exists.intro [[.int s.cls,.str s.name,.int s.pos,.nilsl]] (And.intro (by repeat (first|exact trivial|exact rfl|(refine And.intro ?_ ?_))) ?_)
        refine And.intro ?_ (Exists.intro (y7 z++[[AV.int s.cls,.str s.name,.int s.pos,.nilsl]]) (And.intro (D8 _) ?_))
        · show ((y7 z).length+1)*56≤_
          rw [show (y7 z).length=l.length by simp only [y7,List.length_map]; exact bD9 hz]
          exact hf
        have hat:(y7 z++[[AV.int s.cls,.str s.name,.int s.pos,.nilsl]])[l.length]?=some [AV.int s.cls,.str s.name,.int s.pos,.nilsl]:=by
          rw [List.getElem?_append_right (by simp [y7,bD9 hz])]
          simp [y7,bD9 hz]
        show OOk Try.prog Γ _ _ _ _ _
        refine OOk.gh (Gh.unnil (r:=23) (i:=l.length) (off:=3) (j:=104) (j':=105) (isz:=2) (ie:=91) rfl hat rfl rfl rfl rfl rfl rfl) ?_
        intro _
        refine OOk.done ?_
        have ex:ixd (fun t:Tl=>decide (t.site=s)) ⟨s,[]⟩ l=(l++[⟨s,[]⟩],l.length):=by unfold ixd; rw [e2]
        have hlz:=bD9 hz
        refine ⟨⟨(l.length,⟨s,[]⟩,⟨none,0,0⟩,z++[(⟨none,0,0⟩,nTl ⟨s,[]⟩)]),?_,?_,?_,?_,?_⟩,[(102,23)],⟨⟨rfl,?_,rfl,trivial⟩,⟨?_,?_,rfl,rfl,trivial⟩,rfl,rfl⟩⟩
        · show (z++[_])[l.length]?=_
          rw [List.getElem?_append_right (by omega)]
          simp [hlz]
        · rw [ex]
          show List.map (fun p:Hd×List AV×List (List AV)=>p.2) (z++[_])=List.map nTl (l++[_])
          rw [List.map_append,List.map_append,hz]
          rfl
        · rw [ex]
          show (l++[_])[l.length]?=_
          rw [List.getElem?_append_right (Nat.le_refl _)]
          simp
        · rw [ex]
        · show (0+1)*16≤_
          decide
        · exact congrArg AV.int (by simp [y7,hlz])
        · refine congrArg (fun q=>some (Obj.row 4 q 113)) ?_
          show (y7 z++[_]).set l.length _=y7 (z++[_])
          rw [bB7,List.set_append_right _ _ (by simp [y7,hlz])]
          simp [y7,hlz,nTl,aF7]
        · refine congrArg (fun q=>some (Obj.pins 2 q 91)) ?_
          show M8 z=(M8 (z++[_])).eraseIdx l.length
          rw [bH9,List.eraseIdx_append_of_length_le (by simp [M8,hlz])]
          simp [M8,hlz]
      · rw [e1] at hge; omega
  · intro k; rw [hn]; rfl
  rintro ⟨⟨k,x,h,z⟩,hq1,hq2,hq3,hq4,hq5⟩
  have hq1:z[k]?=some (h,nTl x):=hq1
  have hkz:k < (y7 z).length:=by
    have:=(List.getElem?_eq_some_iff.1 hq1).1
    simpa [y7] using this
  have hat:(y7 z)[k]?=some (aF7 x++[.con h.v]):=by simp [y7,hq1,nTl]
  (repeat (first|refine j6 hn ?_|refine q8 hn ?_|refine L8 hn ?_|refine p8 hn ?_|refine F6 hn ?_|refine p9 hn ?_|refine got hn ?_))
  refine And.intro (by omega) (And.intro (by simpa using hkz) ?_)
  refine And.intro (by simpa using hkz) (fun cs hcs=>?_)
  have hcs:(y7 z)[k]?=some cs:=hcs
  obtain rfl:cs=aF7 x++[.con h.v]:=Option.some.inj (hcs.symm.trans hat)
  refine And.intro rfl ?_
  show l8 Try.prog _ _ _ _
  refine l8.lend (Y0 N x.classes (fun x=>aL4 N x c) (fun x y hy=>bY2 N x c y hy) _ (ixL N c x.classes)) (aD5 rfl) rfl ?_
  refine j5.cut (ι:={ q:Nat×Ln×Hd×List Ln // q.2.2.2=(ixd (fun y=>decide (y.cls=c)) ⟨c,0⟩ x.classes).1∧(ixd (fun y=>decide (y.cls=c)) ⟨c,0⟩ x.classes).2=q.1∧q.2.2.2[q.1]?=some q.2.1 })
    (fun q=>[(7,.own 102),(8,.int k),(9,.int q.1.1)]) (fun q=>[(102,.row 4 ((y7 z).set k (aF7 x++[.con q.1.2.2.1.v])) 113),(103,.pins 2 ((M8 z).eraseIdx k) 91),(104,.row 2 (q.1.2.2.2.map K7) 91),(105,.eqv 104 q.1.2.2.1.v)]) ?_ ?_ ?_
  · (repeat (first|refine j6 hn ?_|refine q8 hn ?_|refine L8 hn ?_|refine p8 hn ?_|refine F6 hn ?_|refine p9 hn ?_|refine got hn ?_))
    rcases bP1 (fun y:Ln=>decide (y.cls=c)) x.classes with ⟨j,y,e1,e2,e3,e4⟩|⟨e1,e2⟩
    · refine aH5 (fun hlt=>?_) (fun hge=>?_)
      · rw [e1] at hlt; omega
      · refine p9 hn ?_
        have ex:ixd (fun y:Ln=>decide (y.cls=c)) ⟨c,0⟩ x.classes=(x.classes,j):=by unfold ixd; rw [e4]
        refine ⟨⟨(j,y,h,x.classes),by rw [ex],by rw [ex],e2⟩,[],⟨⟨rfl,rfl,congrArg AV.int e1,trivial⟩,⟨?_,rfl,rfl,rfl,trivial⟩,rfl,rfl⟩⟩
        refine congrArg (fun q=>some (Obj.row 4 q 113)) ?_
        show y7 z=(y7 z).set k _
        exact (bM7 hat).symm
    · refine aH5 (fun hlt=>?_) (fun hge=>?_)
      · (repeat (first|refine j6 hn ?_|refine q8 hn ?_|refine L8 hn ?_|refine p8 hn ?_|refine F6 hn ?_|refine p9 hn ?_|refine got hn ?_))
        refine And.intro (by omega) (And.intro (by simpa using hkz) ?_)
        refine And.intro (by simpa using hkz) (fun cs hcs=>?_)
        have hcs:(y7 z)[k]?=some cs:=hcs
        obtain rfl:cs=aF7 x++[.con h.v]:=Option.some.inj (hcs.symm.trans hat)
        refine And.intro rfl ?_
        rintro _ rfl hlen2
        refine j5.snoc (P5 hn (by kernel_rfl) ?_)
        refine And.intro (by omega) (And.intro (by simpa using hkz) ?_)
        refine And.intro (by simpa using hkz) (fun cs hcs=>?_)
        have hcs:(y7 z)[k]?=some cs:=hcs
        obtain rfl:cs=aF7 x++[.con h.v]:=Option.some.inj (hcs.symm.trans hat)
        refine And.intro rfl ?_
        refine Exists.intro (List.map K7 [⟨c,0⟩]) (And.intro (by repeat (first|exact trivial|exact rfl|(refine And.intro ?_ ?_))) ?_)
        refine And.intro ?_ (Exists.intro (List.map K7 (x.classes++[⟨c,0⟩])) (And.intro (bJ4 (D8 _)) ?_))
        · show ((x.classes.map K7).length+1)*16≤_
          rw [List.length_map]
          exact hq5
        refine And.intro (by omega) (And.intro (by simpa using hkz) ?_)
        refine And.intro (by simpa using hkz) (And.intro ?_ ?_)
        · intro cs hcs
          have hcs:(y7 z)[k]?=some cs:=hcs
          obtain rfl:cs=aF7 x++[.con h.v]:=Option.some.inj (hcs.symm.trans hat)
          show 3 < 4
          omega
        show F4 Γ _ _ _
        refine F4.gh (Gh.rowx 102 106 rfl rfl rfl (fun _=>rfl) rfl) (fun g=>?_)
        refine F4.done ?_
        have ex:ixd (fun y:Ln=>decide (y.cls=c)) ⟨c,0⟩ x.classes=(x.classes++[⟨c,0⟩],x.classes.length):=by unfold ixd; rw [e2]
        refine ⟨⟨(x.classes.length,⟨c,0⟩,g,x.classes++[⟨c,0⟩]),by rw [ex],by rw [ex],by simp⟩,[(104,49),(105,106)],⟨⟨rfl,rfl,?_,trivial⟩,⟨?_,rfl,rfl,rfl,trivial⟩,rfl,rfl⟩⟩
        · exact congrArg AV.int (by simp)
        · refine congrArg (fun q=>some (Obj.row 4 q 113)) ?_
          show aO4 (y7 z) k 3 (.con g.v)=(y7 z).set k _
          unfold aO4
          rw [hat]
          rfl
      · rw [e1] at hge; omega
  · intro k; rw [hn]; rfl
  rintro ⟨⟨j,y,h',ys⟩,hj1,hj2,hj3⟩
  have hat2:((y7 z).set k (aF7 x++[.con h'.v]))[k]?=some (aF7 x++[.con h'.v]):=by rw [List.getElem?_set,if_pos rfl,if_pos hkz]
  have hj3:ys[j]?=some y:=hj3
  have hjl:j < ys.length:=(List.getElem?_eq_some_iff.1 hj3).1
  have hat3:(ys.map K7)[j]?=some (K7 y):=by simp [hj3]
  (repeat (first|refine j6 hn ?_|refine q8 hn ?_|refine L8 hn ?_|refine p8 hn ?_|refine F6 hn ?_|refine p9 hn ?_|refine got hn ?_))
  refine And.intro (by omega) (And.intro (by simpa using hkz) ?_)
  refine And.intro (by simpa using hkz) (fun cs hcs=>?_)
  have hcs:((y7 z).set k (aF7 x++[.con h'.v]))[k]?=some cs:=hcs
  obtain rfl:cs=aF7 x++[.con h'.v]:=Option.some.inj (Eq.trans (Eq.symm hcs) hat2)
  refine And.intro rfl ?_
  refine And.intro (by omega) (And.intro (by simpa using hjl) ?_)
  refine And.intro (by simpa using hjl) (fun cs2 hcs2=>?_)
  have hcs2:(ys.map K7)[j]?=some cs2:=hcs2
  obtain rfl:cs2=K7 y:=Option.some.inj (Eq.trans (Eq.symm hcs2) hat3)
  refine Or.inr ?_
  refine And.intro (by omega) (And.intro (by simpa using hjl) ?_)
  have hzk:k < z.length:=(List.getElem?_eq_some_iff.1 hq1).1
  have hys:ys.set j ⟨y.cls,wr (y.found+1)⟩=aR1 c x.classes:=by
    have h1:ys=(ixd (fun y=>decide (y.cls=c)) ⟨c,0⟩ x.classes).1:=hj1
    have h2:(ixd (fun y=>decide (y.cls=c)) ⟨c,0⟩ x.classes).2=j:=hj2
    unfold aR1
    simp only
    rw [h2,←h1,bJ0 hj3]
  refine And.intro (by simpa using hjl) (fun cs3 hcs3=>?_)
  have hcs3:(ys.map K7)[j]?=some cs3:=hcs3
  obtain rfl:cs3=K7 y:=Option.some.inj (Eq.trans (Eq.symm hcs3) hat3)
  refine Exists.intro (List.map K7 (aR1 c x.classes)) (And.intro (by rw [←hys]; exact aV8 hj3 (by repeat (first|exact trivial|exact rfl|(refine And.intro ?_ ?_)))) ?_)
  have hp:(M8 (z.set k (h',aF7 x,(aR1 c x.classes).map K7))).Perm ((h',(aR1 c x.classes).map K7)::(M8 z).eraseIdx k):=by
    rw [show M8 (z.set k (h',aF7 x,(aR1 c x.classes).map K7))=(M8 z).set k (h',(aR1 c x.classes).map K7) by simp [M8,List.map_set]]
    exact set_perm (by simpa [M8] using hzk)
  show j5 Try.prog Γ _ _ _ _
  refine j5.gh (Gh.repin (h:=h') (ls:=(aR1 c x.classes).map K7) (l':=M8 (z.set k (h',aF7 x,(aR1 c x.classes).map K7))) 104 105 103 rfl rfl rfl hp rfl rfl rfl) (fun _=>?_)
  have hz2:(z.set k (h',aF7 x,(aR1 c x.classes).map K7)).map (·.2)=(cD9 s c l).map nTl:=by
    have h2:(ixd (fun t=>decide (t.site=s)) ⟨s,[]⟩ l).2=k:=hq4
    have h3:z.map (·.2)=(ixd (fun t=>decide (t.site=s)) ⟨s,[]⟩ l).1.map nTl:=hq2
    have h4:(ixd (fun t=>decide (t.site=s)) ⟨s,[]⟩ l).1[k]?=some x:=hq3
    unfold cD9
    simp only
    rw [h2,bJ0 h4,List.map_set,List.map_set,h3]
    rfl
  refine j5.gh (Gh.close 7 102 103 107 (z.set k (h',aF7 x,(aR1 c x.classes).map K7)) rfl rfl rfl (by show (y7 z).set k _=_; simp [y7,List.map_set]) rfl hz2 rfl rfl rfl rfl rfl) (fun _=>?_)
  show j5 Try.prog Γ _ _ _ _
  refine j5.flat 7 107 108 rfl rfl rfl rfl rfl ?_
  rw [cC4]
  (repeat (first|refine j6 hn ?_|refine q8 hn ?_|refine L8 hn ?_|refine p8 hn ?_|refine F6 hn ?_|refine p9 hn ?_|refine got hn ?_))
  exact ⟨[(0,108)],_,rfl,rfl,⟨rfl,trivial⟩,rfl,rfl,rfl,rfl,rfl⟩

/- cached.Run$1 -/
set_option maxRecDepth 100000 in
set_option maxHeartbeats 8000000 in
theorem bV9 (N:Nat) (a0:St) (a1:Int) (a2:ByteArray) (b0:q9) (b1:Wd) (r:(Int×Int×q9)) (h:aF0 N a0 a1 a2 b0 b1=some r):Spec Try.prog 48 [(1048,.box (O7 b0) 50)] [.agg (eSt a0),.int a1,.str a2,.ptr 1048 0,.fp (eWd b1)] (.tup [.int r.1,.int r.2.1]) [(1048,.box (O7 r.2.2) 50)] []:=by
 refine Spec.of z8 Try.func48 rfl Try.ntmps48 (by kernel_rfl) rfl rfl rfl fun Γ hn=>?_
 unfold aF0 at h
 refine j6 hn ?_
 refine j6 hn ?_
 obtain ⟨r1,hr2,h⟩:=j4 h
 show l8 Try.prog _ _ _ _
 refine cA ((b83 N b0.cells b1 a0 a1 a2 r1 hr2).sw 0 21) ?_
 refine kp [(1,_),(3,_),(5,_),(10,_),(11,_),(12,_),(13,_)] [(5,_),(21,_),(1048,_)] ?_
 refine j6 hn ?_
 refine j6 hn ?_
 obtain ⟨r3,hr4,h⟩:=j4 h
 show l8 Try.prog _ _ _ _
 refine cA ((cF4 N b0.tallies a0 a1 r3 hr4).sw 0 32) ?_
 refine j5.seqQ fun _ A0 _ _=>?_
 refine j6 hn ?_
 obtain ⟨o8,h7,h⟩:=j4 h
 refine jk (ι:={ s // o8=s }) hn (fun s=>[]) (fun s=>[(1048,.box [.sl 4 (List.map O8 b0.world.classes),.sl 2 (List.map L6 b0.world.heap),.int b0.world.epoch,.int b0.ran.value.k,.int b0.ran.value.n,.int b0.ran.err,.int b0.ran.sends,.own 21,.own 32,.int s.1.1,.int s.1.2] 50)]) [(3,_),(11,_),(12,_)] [(21,_),(32,_)] (fun _ A1 _ _=>?_) ?_
 ·refine p8 hn ?_
  refine l5 h7 (fun hb9 h7=>?_) (fun hb9 h7=>?_)
  ·refine q8 hn ?_
   refine Or.inr ?_
   refine A1 _ _ ?_
   exact jn ⟨_,sj h7⟩ []
  refine q8 hn ?_
  refine Or.inr ?_
  refine A1 _ _ ?_
  exact jn ⟨_,sj h7⟩ []
 rintro ⟨⟨v5,v6⟩,rfl⟩
 refine A0 _ _ ?_
 refine j6 hn ?_
 refine j5.fzAll 21 rfl ?_
 refine j5.fzAll 32 rfl ?_
 refine got hn ?_
 obtain rfl:=Option.some.inj h
 exact ⟨[],_,fm⟩

/- run.None -/
set_option maxRecDepth 100000 in
set_option maxHeartbeats 8000000 in
theorem cH1 (N:Nat) (a0:Int) (a1:Int) (r:(Fs×Bool)) (h:a99 N a0 a1=some r):Spec Try.prog 50 [] [.int a0,.int a1] (.tup [.agg (eFs r.1),.bool r.2]) [] []:=by
 refine Spec.of z8 Try.func50 rfl Try.ntmps50 (by kernel_rfl) rfl rfl rfl fun Γ hn=>?_
 unfold a99 at h
 refine j6 hn ?_
 refine j6 hn ?_
 refine got hn ?_
 obtain rfl:=Option.some.inj h
 exact ⟨[],_,fm⟩

/- cached.Run -/
set_option maxRecDepth 100000 in
set_option maxHeartbeats 8000000 in
theorem aQ9 (N:Nat) (a0:Wd) (a1:O4) (a2:Int) (a3:(List Ce)) (a4:(List Tl)) (r:q9) (h:aH0 N a0 a1 a2 a3 a4=some r):Spec Try.prog 15 [] [.agg (eWd a0),.agg (bF3 a1),.int a2,.sl 6 (List.map eCe a3),.sl 4 (List.map eTl a4)] (.agg (O7 r)) [] []:=by
 refine Spec.of z8 Try.func15 rfl Try.ntmps15 (by kernel_rfl) rfl rfl rfl fun Γ hn=>?_
 unfold aH0 at h
 refine j6 hn ?_
 refine j6 hn ?_
 obtain ⟨r1,hr2,h⟩:=j4 h
 show l8 Try.prog _ _ _ _
 refine cA ((bA4 N a3 r1 hr2).sw 0 13) ?_
 obtain ⟨r3,hr4,h⟩:=j4 h
 show l8 Try.prog _ _ _ _
 refine cA ((cG0 N a4 r3 hr4).sw 0 15) ?_
 refine j5.gh (Gh.fzBox 5 5 rfl rfl rfl) (fun _=>?_)
 refine j5.leBox 11 [.sl 4 (List.map O8 ([]:List Cl)),.sl 2 (List.map L6 ([]:List Ob)),.int (0:Int),.int (0:Int),.int (0:Int),.int (0:Int),.int (0:Int),.own 13,.own 15,.int (0:Int),.int (0:Int)] rfl (by repeat (first|exact trivial|exact rfl|(refine And.intro ?_ ?_))) ?_
 refine j5.fzAll 13 rfl ?_
 refine j5.fzAll 15 rfl ?_
 refine kp [(2,_),(5,_),(6,_),(10,_),(11,_)] [(6,_),(10,_),(11,_)] ?_
 refine j6 hn ?_
 obtain ⟨r5,hr6,h⟩:=j4 h
 show l8 Try.prog _ _ _ _
 refine cA ((bR2 N a0 a1 a2 (fun x0_ x1_ x2_ s_=>aF0 N x0_ x1_ x2_ s_ a0) (⟨(⟨([]:List Cl),([]:List Ob),(0:Int)⟩:Wd),(⟨(⟨(0:Int),(0:Int)⟩:V),(0:Int),(0:Int)⟩:aK0),r1,r3,(0:Int),(0:Int)⟩:q9) (fun x0_ x1_=>a99 N x0_ x1_) (fun x0_ x1_ x2_ s_ y_ hy_=>(bV9 N x0_ x1_ x2_ s_ a0 y_ hy_).sw 1048 1055) (fun x0_ x1_ y_ hy_=>cH1 N x0_ x1_ y_ hy_) r5 hr6).sw 1055 11) ?_
 refine j6 hn ?_
 refine got hn ?_
 obtain rfl:=Option.some.inj h
 exact ⟨[],_,fm⟩

/- qcref1.Make -/
set_option maxRecDepth 100000 in
set_option maxHeartbeats 8000000 in
theorem b24 (N:Nat) (a0:Wd) (a1:ByteArray) (a2:Int) (a3:Int) (r:(Wd×Int×Int)) (h:bD8 N a0 a1 a2 a3=some r):Spec Try.prog 33 [] [.agg (eWd a0),.str a1,.int a2,.int a3] (.tup [.agg (eWd r.1),.int r.2.1,.int r.2.2]) [] []:=by
 refine Spec.of z8 Try.func33 rfl Try.ntmps33 (by kernel_rfl) rfl rfl rfl fun Γ hn=>?_
 unfold bD8 at h
 refine j6 hn ?_
 refine j5.seqQ fun _ A0 _ R0=>?_
 refine j6 hn ?_
 obtain ⟨r1,hr2,h⟩:=j4 h
 show l8 Try.prog _ _ _ _
 refine cA (aP3 N a1 r1 hr2) ?_
 refine p8 hn ?_
 refine l5 h (fun hb3 h=>?_) (fun hb3 h=>?_)
 ·refine j6 hn ?_
  refine got hn ?_
  refine R0 _ _ ?_
  obtain rfl:=Option.some.inj h
  exact ⟨[],_,fm⟩
 refine p9 hn ?_
 refine A0 _ _ ?_
 refine j5.seqQ fun _ A1 _ R1=>?_
 refine j6 hn ?_
 refine D5 (fun hl4=>?_)
 obtain ⟨o6,h7,h⟩:=j4 h
 refine jk (ι:={ s // o6=D9.next s }) hn (fun s=>[]) (fun s=>[]) [(1,_),(2,_),(3,_),(4,_),(8,_)] [(4,_),(8,_)] (fun _ A2 _ R2=>?_) ?_
 ·refine j5.blkQ fun _ _ E3 _ R3=>?_
  refine lq (ι:={ q:((List Cl)×Nat) // q.1=a0.classes.drop q.2∧aI7 N a1 q.1 q.2=some o6 }) hn (fun q=>[(21,.int (q.1.2:Int))]) (fun q=>[]) (fun q=>q.1.1.length) [(1,_),(2,_),(3,_),(4,_),(8,_),(19,_),(20,_)] [(4,_),(8,_)] ⟨(a0.classes,0),rfl,h7⟩ [] ?_
  rintro ⟨⟨rest_,k5⟩,hd9,h7⟩ _ A4 X4 R4
  replace hd9:rest_=a0.classes.drop k5:=hd9
  rcases rest_ with _|⟨x11,rest8⟩
  ·have hlt13:=N9 hd9
   replace h7:=(aI7.eq_1 _ _ _).symm.trans h7
   refine j6 hn ?_
   refine j5.seqQ fun _ _ X5 _=>?_
   refine p8 hn ?_
   refine d9 hlt13 ?_
   refine F6 hn ?_
   refine X5 _ _ _ ?_
   refine X4 _ _ _ ?_
   refine E3 _ _ ?_
   refine A2 _ _ ?_
   exact jn ⟨_,sj h7⟩ []
  ·obtain ⟨hx12,hd2,hlt13⟩:=H9 hd9
   replace h7:=(aI7.eq_2 _ _ _ _ _).symm.trans h7
   refine j6 hn ?_
   refine j5.seqQ fun _ A6 _ _=>?_
   refine p8 hn ?_
   refine j3 hlt13 ?_
   refine p9 hn ?_
   refine A6 _ _ ?_
   refine j5.seqQ fun _ A7 _ R7=>?_
   refine j5.blkQ fun _ A8 _ _ R8=>?_
   refine j6 hn ?_
   refine aJ1 hx12 ?_
   refine j6 hn ?_
   refine p8 hn ?_
   refine l5 h7 (fun hb14 h7=>?_) (fun hb14 h7=>?_)
   ·refine j6 hn ?_
    refine got hn ?_
    refine R8 _ _ ?_
    refine R7 _ _ ?_
    refine R4 _ _ ?_
    refine R3 _ _ ?_
    refine R2 _ _ ?_
    refine R1 _ _ ?_
    obtain rfl:=Option.some.inj h7
    obtain rfl:=Option.some.inj h
    exact ⟨[],_,fm⟩
   refine p9 hn ?_
   refine A8 _ _ ?_
   refine A7 _ _ ?_
   refine q8 hn ?_
   refine Or.inl (And.intro (aE3 hx12 hl4) ?_)
   refine A4 _ _ ?_
   exact jn ⟨(rest8,k5+1),hd2,h7⟩ [] (by show rest8.length < rest8.length+1; omega)
 rintro ⟨⟨⟩,rfl⟩
 refine A1 _ _ ?_
 refine j5.seqQ fun _ A9 _ R9=>?_
 refine j5.seqQ fun _ A10 _ _=>?_
 obtain ⟨o17,h16,h⟩:=j4 h
 refine jk (ι:={ s // o17=s }) hn (fun s=>[(39,.bool s.1)]) (fun s=>[]) [(1,_),(2,_),(3,_),(4,_),(8,_)] [(4,_),(8,_)] (fun _ A11 _ _=>?_) ?_
 ·refine q8 hn ?_
  refine l5 h16 (fun hb18 h16=>?_) (fun hb18 h16=>?_)
  ·refine j3 hb18 ?_
   refine j3 hb18 ?_
   refine j3 hb18 ?_
   refine j3 hb18 ?_
   refine j3 hb18 ?_
   refine A11 _ _ ?_
   exact jn ⟨_,sj h16⟩ []
  refine d9 hb18 ?_
  refine d9 hb18 ?_
  refine d9 hb18 ?_
  refine D5 (fun _=>?_)
  refine d9 hb18 ?_
  refine d9 hb18 ?_
  refine A11 _ _ ?_
  exact jn ⟨_,sj h16⟩ []
 rintro ⟨v15,hv_⟩
 replace hv_:=hv_.symm
 subst hv_
 refine A10 _ _ ?_
 refine p8 hn ?_
 refine l5 h (fun hb20 h=>?_) (fun hb20 h=>?_)
 ·refine j6 hn ?_
  refine got hn ?_
  refine R9 _ _ ?_
  obtain rfl:=Option.some.inj h
  exact ⟨[],_,fm⟩
 refine p9 hn ?_
 refine A9 _ _ ?_
 refine j5.seqQ fun _ A12 _ R12=>?_
 refine j5.seqQ fun _ A13 _ _=>?_
 obtain ⟨o23,h22,h⟩:=j4 h
 refine jk (ι:={ s // o23=s }) hn (fun s=>[(62,.bool s.1)]) (fun s=>[]) [(1,_),(2,_),(3,_),(4,_),(8,_)] [(4,_),(8,_)] (fun _ A14 _ _=>?_) ?_
 ·refine q8 hn ?_
  refine l5 h22 (fun hb24 h22=>?_) (fun hb24 h22=>?_)
  ·refine j3 hb24 ?_
   refine j3 hb24 ?_
   refine A14 _ _ ?_
   exact jn ⟨_,sj h22⟩ []
  refine d9 hb24 ?_
  refine d9 hb24 ?_
  refine l5 h22 (fun hb25 h22=>?_) (fun hb25 h22=>?_)
  ·refine j3 hb25 ?_
   refine j3 hb25 ?_
   refine j3 hb25 ?_
   refine j3 hb25 ?_
   refine j3 hb25 ?_
   refine j3 hb25 ?_
   refine A14 _ _ ?_
   exact jn ⟨_,sj h22⟩ []
  refine d9 hb25 ?_
  refine d9 hb25 ?_
  refine d9 hb25 ?_
  obtain ⟨r26,hr27,h22⟩:=j4 h22
  show l8 Try.prog _ _ _ _
  refine cA (aG8 N a0 a2 r26 hr27) ?_
  refine d9 hb25 ?_
  refine Or.inr ?_
  refine d9 hb25 ?_
  refine d9 hb25 ?_
  refine l5 h22 (fun hb28 h22=>?_) (fun hb28 h22=>?_)
  ·refine j3 hb28 ?_
   refine j3 hb28 ?_
   refine j3 hb28 ?_
   refine j3 hb28 ?_
   refine A14 _ _ ?_
   exact jn ⟨_,sj h22⟩ []
  refine d9 hb28 ?_
  refine d9 hb28 ?_
  refine l5 h22 (fun hb29 h22=>?_) (fun hb29 h22=>?_)
  ·refine j3 hb29 ?_
   refine d9 hb28 ?_
   refine j3 hb29 ?_
   refine d9 hb28 ?_
   refine A14 _ _ ?_
   exact jn ⟨_,sj h22⟩ []
  refine d9 hb29 ?_
  refine d9 hb28 ?_
  refine d9 hb29 ?_
  refine d9 hb28 ?_
  refine A14 _ _ ?_
  exact jn ⟨_,sj h22⟩ []
 rintro ⟨v21,hv_⟩
 replace hv_:=hv_.symm
 subst hv_
 refine A13 _ _ ?_
 refine p8 hn ?_
 refine l5 h (fun hb30 h=>?_) (fun hb30 h=>?_)
 ·refine j6 hn ?_
  refine got hn ?_
  refine R12 _ _ ?_
  obtain rfl:=Option.some.inj h
  exact ⟨[],_,fm⟩
 refine p9 hn ?_
 refine A12 _ _ ?_
 refine j5.seqQ fun _ A15 _ R15=>?_
 refine j6 hn ?_
 refine D5 (fun _=>?_)
 refine p8 hn ?_
 refine l5 h (fun hb32 h=>?_) (fun hb32 h=>?_)
 ·refine j6 hn ?_
  refine got hn ?_
  refine R15 _ _ ?_
  obtain rfl:=Option.some.inj h
  exact ⟨[],_,fm⟩
 refine p9 hn ?_
 refine A15 _ _ ?_
 refine j6 hn ?_
 refine D5 (fun _=>?_)
 refine j6 hn ?_
 refine Or.inr ?_
 refine Exists.intro (List.map O8 ([]:List Cl)) (And.intro (by repeat (first|exact trivial|exact rfl|(refine And.intro ?_ ?_))) ?_)
 obtain ⟨hg34,h⟩:=G5 h
 refine aJ7 (l2:=a0.classes) hg34 (D8 _) ?_
 refine Or.inr ?_
 refine Exists.intro (List.map O8 [(⟨a1,a2,a3,[]⟩:Cl)]) (And.intro (by repeat (first|exact trivial|exact rfl|(refine And.intro ?_ ?_))) ?_)
 obtain ⟨hg35,h⟩:=G5 h
 refine aJ7 (l2:=[(⟨a1,a2,a3,[]⟩:Cl)]) hg35 (D8 _) ?_
 refine kp [(4,_),(8,_),(13,_)] [(4,_),(8,_),(81,_)] ?_
 refine j6 hn ?_
 refine j5.fzAll 81 rfl ?_
 refine got hn ?_
 obtain rfl:=Option.some.inj h
 exact ⟨[],_,fm⟩

/- qcref1.Install -/
set_option maxRecDepth 100000 in
set_option maxHeartbeats 8000000 in
theorem bR4 (N:Nat) (a0:Wd) (a1:Int) (a2:Me) (r:(Wd×Int)) (h:aW7 N a0 a1 a2=some r):Spec Try.prog 35 [] [.agg (eWd a0),.int a1,.agg (eMe a2)] (.tup [.agg (eWd r.1),.int r.2]) [] []:=by
 refine Spec.of z8 Try.func35 rfl Try.ntmps35 (by kernel_rfl) rfl rfl rfl fun Γ hn=>?_
 unfold aW7 at h
 refine j6 hn ?_
 refine j5.seqQ fun _ A0 _ R0=>?_
 refine j5.seqQ fun _ A1 _ _=>?_
 obtain ⟨o3,h2,h⟩:=j4 h
 refine jk (ι:={ s // o3=s }) hn (fun s=>[(21,.bool s.1)]) (fun s=>[]) [(1,_),(3,_),(5,_),(6,_)] [(3,_),(5,_),(6,_)] (fun _ A2 _ _=>?_) ?_
 ·refine q8 hn ?_
  refine l5 h2 (fun hb4 h2=>?_) (fun hb4 h2=>?_)
  ·refine j3 hb4 ?_
   refine j3 hb4 ?_
   refine j3 hb4 ?_
   refine j3 hb4 ?_
   refine j3 hb4 ?_
   refine A2 _ _ ?_
   exact jn ⟨_,sj h2⟩ []
  refine d9 hb4 ?_
  refine d9 hb4 ?_
  refine d9 hb4 ?_
  refine D5 (fun _=>?_)
  refine d9 hb4 ?_
  refine d9 hb4 ?_
  refine A2 _ _ ?_
  exact jn ⟨_,sj h2⟩ []
 rintro ⟨v1,hv_⟩
 replace hv_:=hv_.symm
 subst hv_
 refine A1 _ _ ?_
 refine p8 hn ?_
 refine l5 h (fun hb6 h=>?_) (fun hb6 h=>?_)
 ·refine j6 hn ?_
  refine got hn ?_
  refine R0 _ _ ?_
  obtain rfl:=Option.some.inj h
  exact ⟨[],_,fm⟩
 refine p9 hn ?_
 refine A0 _ _ ?_
 refine j6 hn ?_
 refine j6 hn ?_
 refine j5.seqQ fun _ A3 _ _=>?_
 refine j6 hn ?_
 obtain ⟨x7,hx8,h⟩:=j4 h
 refine V5 hx8 ?_
 refine D5 (fun hl9=>?_)
 refine j5.nilrow 8 208 5 64 rfl rfl rfl ?_
 obtain ⟨o20,h21,h⟩:=j4 h
 refine jk (ι:={ s // o20=s }) hn (fun s=>[(9,.bool s.1.2.1),(10,.bool s.1.2.2)]) (fun s=>[(208,.row 5 (List.map eMe s.1.1) 64)]) [(1,_),(3,_),(5,_),(6,_),(8,_)] [(3,_),(5,_),(6,_)] (fun _ A4 _ _=>?_) ?_
 ·refine j5.blkQ fun _ _ E5 _ _=>?_
  refine lq (ι:={ q:((List Me)×Nat×(List Me)×Bool×Bool) // q.1=x7.methods.drop q.2.1∧aD0 N a2 q.1 q.2.1 q.2.2.1 q.2.2.2.1 q.2.2.2.2=some o20 }) hn (fun q=>[(9,.bool q.1.2.2.2.1),(10,.bool q.1.2.2.2.2),(30,.int (q.1.2.1:Int))]) (fun q=>[(208,.row 5 (List.map eMe q.1.2.2.1) 64)]) (fun q=>q.1.1.length) [(1,_),(3,_),(5,_),(6,_),(8,_),(28,_),(29,_)] [(3,_),(5,_),(6,_)] ⟨(x7.methods,0,([]:List Me),false,false),rfl,h21⟩ [] ?_
  rintro ⟨⟨rest_,k10,v11,v12,v13⟩,hd23,h21⟩ _ A6 X6 _
  replace hd23:rest_=x7.methods.drop k10:=hd23
  rcases rest_ with _|⟨x25,rest22⟩
  ·have hlt27:=N9 hd23
   replace h21:=(aD0.eq_1 _ _ _ _ _ _).symm.trans h21
   refine j6 hn ?_
   refine j5.seqQ fun _ _ X7 _=>?_
   refine p8 hn ?_
   refine d9 hlt27 ?_
   refine F6 hn ?_
   refine X7 _ _ _ ?_
   refine X6 _ _ _ ?_
   refine E5 _ _ ?_
   refine A4 _ _ ?_
   exact jn ⟨_,sj h21⟩ []
  ·obtain ⟨hx26,hd2,hlt27⟩:=H9 hd23
   replace h21:=(aD0.eq_2 _ _ _ _ _ _ _ _).symm.trans h21
   refine j6 hn ?_
   refine j5.seqQ fun _ A8 _ _=>?_
   refine p8 hn ?_
   refine j3 hlt27 ?_
   refine p9 hn ?_
   refine A8 _ _ ?_
   refine j5.seqQ fun _ A9 _ _=>?_
   obtain ⟨o32,h31,h21⟩:=j4 h21
   refine jk (ι:={ s // o32=s }) hn (fun s=>[(8,.own 42),(9,.bool s.1.2.1),(10,.bool s.1.2.2)]) (fun s=>[(42,.row 5 (List.map eMe s.1.1) 64)]) [(1,_),(3,_),(5,_),(6,_),(28,_),(29,_),(30,_)] [(3,_),(5,_),(6,_)] (fun _ A10 _ _=>?_) ?_
   ·refine j5.blkQ fun _ A11 E11 _ _=>?_
    refine j6 hn ?_
    refine aJ1 hx26 ?_
    refine j5.seqQ fun _ A12 X12 _=>?_
    refine j6 hn ?_
    refine p8 hn ?_
    refine l5 h31 (fun hb33 h31=>?_) (fun hb33 h31=>?_)
    ·refine kp [(1,_),(3,_),(5,_),(6,_),(8,_),(28,_),(29,_),(30,_)] [(3,_),(5,_),(6,_),(208,_)] ?_
     refine j6 hn ?_
     refine Exists.intro (List.map eMe [a2]) (And.intro (by repeat (first|exact trivial|exact rfl|(refine And.intro ?_ ?_))) ?_)
     obtain ⟨hg34,h31⟩:=G5 h31
     refine aJ7 (l2:=[a2]) hg34 (D8 _) ?_
     refine j6 hn ?_
     refine F6 hn ?_
     refine X12 _ _ _ ?_
     refine E11 _ _ ?_
     refine A10 _ _ ?_
     exact jn ⟨_,sj h31⟩ []
    refine p9 hn ?_
    refine A12 _ _ ?_
    refine j5.seqQ fun _ A13 _ _=>?_
    refine j5.seqQ fun _ A14 _ _=>?_
    obtain ⟨o37,h36,h31⟩:=j4 h31
    refine jk (ι:={ s // o37=s }) hn (fun s=>[(51,.bool s.1)]) (fun s=>[]) [(1,_),(3,_),(5,_),(6,_),(8,_),(9,_),(10,_),(12,_),(28,_),(29,_),(30,_)] [(3,_),(5,_),(6,_),(12,_),(208,_)] (fun _ A15 _ _=>?_) ?_
    ·refine kp [(1,_),(3,_),(5,_),(6,_),(8,_),(9,_),(10,_),(12,_),(28,_),(29,_),(30,_)] [(3,_),(5,_),(6,_),(12,_),(208,_)] ?_
     refine q8 hn ?_
     refine l5 h36 (fun hb38 h36=>?_) (fun hb38 h36=>?_)
     ·refine j3 hb38 ?_
      refine j3 hb38 ?_
      refine j3 hb38 ?_
      refine j3 hb38 ?_
      refine j3 hb38 ?_
      refine A15 _ _ ?_
      exact jn ⟨_,sj h36⟩ []
     refine d9 hb38 ?_
     refine d9 hb38 ?_
     refine d9 hb38 ?_
     refine d9 hb38 ?_
     refine d9 hb38 ?_
     refine A15 _ _ ?_
     exact jn ⟨_,sj h36⟩ []
    rintro ⟨v35,hv_⟩
    replace hv_:=hv_.symm
    subst hv_
    refine A14 _ _ ?_
    obtain ⟨o42,h41,h31⟩:=j4 h31
    refine jk (ι:={ s // o42=s }) hn (fun s=>[(8,.own 55),(9,.bool s.1.2)]) (fun s=>[(55,.row 5 (List.map eMe s.1.1) 64)]) [(1,_),(3,_),(5,_),(6,_),(10,_),(12,_),(28,_),(29,_),(30,_)] [(3,_),(5,_),(6,_),(12,_)] (fun _ A16 _ _=>?_) ?_
    ·refine p8 hn ?_
     refine l5 h41 (fun hb43 h41=>?_) (fun hb43 h41=>?_)
     ·refine j6 hn ?_
      refine Exists.intro (List.map eMe [a2]) (And.intro (by repeat (first|exact trivial|exact rfl|(refine And.intro ?_ ?_))) ?_)
      obtain ⟨hg44,h41⟩:=G5 h41
      refine aJ7 (l2:=[a2]) hg44 (D8 _) ?_
      refine q8 hn ?_
      refine A16 _ _ ?_
      exact jn ⟨_,sj h41⟩ []
     refine p9 hn ?_
     refine A16 _ _ ?_
     exact jn ⟨_,sj h41⟩ [(55,208)]
    rintro ⟨⟨v39,v40⟩,rfl⟩
    refine A13 _ _ ?_
    refine q8 hn ?_
    refine Exists.intro (List.map eMe [x25]) (And.intro (by repeat (first|exact trivial|exact rfl|(refine And.intro ?_ ?_))) ?_)
    obtain ⟨hg45,h31⟩:=G5 h31
    refine aJ7 (l2:=[x25]) hg45 (D8 _) ?_
    refine A11 _ _ ?_
    refine A10 _ _ ?_
    exact jn ⟨_,sj h31⟩ [(42,59)]
   rintro ⟨⟨v28,v29,v30⟩,rfl⟩
   refine A9 _ _ ?_
   refine q8 hn ?_
   refine Or.inl (And.intro (aE3 hx26 hl9) ?_)
   refine A6 _ _ ?_
   exact jn ⟨(rest22,k10+1,v28,v29,v30),hd2,h21⟩ [(208,42)] (by show rest22.length < rest22.length+1; omega)
 rintro ⟨⟨v17,v18,v19⟩,rfl⟩
 refine A3 _ _ ?_
 refine j5.seqQ fun _ A17 _ _=>?_
 refine j6 hn ?_
 obtain ⟨o48,h47,h⟩:=j4 h
 refine jk (ι:={ s // o48=s }) hn (fun s=>[(8,.own 66)]) (fun s=>[(66,.row 5 (List.map eMe s.1) 64)]) [(1,_),(3,_),(6,_),(10,_)] [(3,_),(6,_)] (fun _ A18 _ _=>?_) ?_
 ·refine p8 hn ?_
  refine l5 h47 (fun hb49 h47=>?_) (fun hb49 h47=>?_)
  ·refine q8 hn ?_
   refine Exists.intro (List.map eMe [a2]) (And.intro (by repeat (first|exact trivial|exact rfl|(refine And.intro ?_ ?_))) ?_)
   obtain ⟨hg50,h47⟩:=G5 h47
   refine aJ7 (l2:=[a2]) hg50 (D8 _) ?_
   refine A18 _ _ ?_
   exact jn ⟨_,sj h47⟩ []
  refine p9 hn ?_
  refine A18 _ _ ?_
  exact jn ⟨_,sj h47⟩ [(66,208)]
 rintro ⟨v46,hv_⟩
 replace hv_:=hv_.symm
 subst hv_
 refine A17 _ _ ?_
 refine j5.seqQ fun _ A19 _ R19=>?_
 refine j5.seqQ fun _ A20 _ _=>?_
 obtain ⟨o53,h52,h⟩:=j4 h
 refine jk (ι:={ s // o53=s }) hn (fun s=>[(78,.bool s.1)]) (fun s=>[]) [(1,_),(3,_),(6,_),(8,_)] [(3,_),(6,_),(66,_)] (fun _ A21 _ _=>?_) ?_
 ·refine q8 hn ?_
  refine l5 h52 (fun hb54 h52=>?_) (fun hb54 h52=>?_)
  ·refine j3 hb54 ?_
   refine j3 hb54 ?_
   refine j3 hb54 ?_
   obtain ⟨x55,hx56,h52⟩:=j4 h52
   refine V5 hx56 ?_
   refine j3 hb54 ?_
   refine j3 hb54 ?_
   refine j3 hb54 ?_
   refine D5 (fun _=>?_)
   refine j3 hb54 ?_
   refine j3 hb54 ?_
   refine A21 _ _ ?_
   exact jn ⟨_,sj h52⟩ []
  refine d9 hb54 ?_
  refine d9 hb54 ?_
  refine d9 hb54 ?_
  refine d9 hb54 ?_
  refine d9 hb54 ?_
  refine d9 hb54 ?_
  refine d9 hb54 ?_
  refine d9 hb54 ?_
  refine A21 _ _ ?_
  exact jn ⟨_,sj h52⟩ []
 rintro ⟨v51,hv_⟩
 replace hv_:=hv_.symm
 subst hv_
 refine A20 _ _ ?_
 refine p8 hn ?_
 refine l5 h (fun hb58 h=>?_) (fun hb58 h=>?_)
 ·refine j6 hn ?_
  refine got hn ?_
  refine R19 _ _ ?_
  obtain rfl:=Option.some.inj h
  exact ⟨[],_,fm⟩
 refine p9 hn ?_
 refine A19 _ _ ?_
 refine j6 hn ?_
 refine Or.inr ?_
 refine Exists.intro (List.map O8 ([]:List Cl)) (And.intro (by repeat (first|exact trivial|exact rfl|(refine And.intro ?_ ?_))) ?_)
 obtain ⟨hg59,h⟩:=G5 h
 refine aJ7 (l2:=a0.classes) hg59 (D8 _) ?_
 refine j5.fzAll 66 rfl ?_
 refine kp [(1,_),(3,_),(6,_),(8,_)] [(3,_),(6,_),(83,_)] ?_
 refine j6 hn ?_
 obtain ⟨x60,hx61,h⟩:=j4 h
 refine aE6 hx61 ?_
 refine Y8 (C8 hx61).2 ?_
 refine Exists.intro (List.map O8 ((([]:List Cl)++a0.classes).set a1.toNat (⟨x60.name,x60.super,x60.slots,v46⟩:Cl))) (And.intro (aV8 (C8 hx61).2 (by repeat (first|exact trivial|exact rfl|(refine And.intro ?_ ?_)))) ?_)
 refine j6 hn ?_
 refine Or.inr ?_
 refine j6 hn ?_
 refine j5.fzAll 83 rfl ?_
 refine got hn ?_
 obtain rfl:=Option.some.inj h
 exact ⟨[],_,fm⟩

/- qclaw8.world -/
set_option maxRecDepth 100000 in
set_option maxHeartbeats 8000000 in
theorem bB5 (N:Nat) (r:Wd) (h:aT5 N =some r):Spec Try.prog 56 [] [] (.agg (eWd r)) [] []:=by
 refine Spec.of z8 Try.func56 rfl Try.ntmps56 (by kernel_rfl) rfl rfl rfl fun Γ hn=>?_
 unfold aT5 at h
 refine j6 hn ?_
 refine j6 hn ?_
 obtain ⟨r1,hr2,h⟩:=j4 h
 show l8 Try.prog _ _ _ _
 refine cA (bL2 N  r1 hr2) ?_
 obtain ⟨r3,hr4,h⟩:=j4 h
 show l8 Try.prog _ _ _ _
 refine cA (b24 N r1 (⟨#[65]⟩:ByteArray) (0:Int) (0:Int) r3 hr4) ?_
 refine j6 hn ?_
 refine Exists.intro (List.map aO2 [(⟨(5:Int),(1:Int),(0:Int),(0:Int),ByteArray.empty⟩:Ins),(⟨(2:Int),(0:Int),(0:Int),(0:Int),ByteArray.empty⟩:Ins),(⟨(14:Int),(1:Int),(0:Int),(0:Int),(⟨#[43]⟩:ByteArray)⟩:Ins),(⟨(17:Int),(0:Int),(0:Int),(0:Int),ByteArray.empty⟩:Ins)]) (And.intro (by repeat (first|exact trivial|exact rfl|(refine And.intro ?_ ?_))) ?_)
 obtain ⟨r5,hr6,h⟩:=j4 h
 show l8 Try.prog _ _ _ _
 refine cF (bR4 N r3.1 r3.2.1 (⟨(⟨#[109]⟩:ByteArray),(1:Int),(0:Int),(0:Int),[(⟨(5:Int),(1:Int),(0:Int),(0:Int),ByteArray.empty⟩:Ins),(⟨(2:Int),(0:Int),(0:Int),(0:Int),ByteArray.empty⟩:Ins),(⟨(14:Int),(1:Int),(0:Int),(0:Int),(⟨#[43]⟩:ByteArray)⟩:Ins),(⟨(17:Int),(0:Int),(0:Int),(0:Int),ByteArray.empty⟩:Ins)]⟩:Me) r5 hr6) ?_
 refine kp [(0,_),(1,_),(2,_)] [(0,_),(1,_)] ?_
 refine j6 hn ?_
 refine Or.inr ?_
 refine Exists.intro (List.map L6 [(⟨r3.2.1,[]⟩:Ob)]) (And.intro (by repeat (first|exact trivial|exact rfl|(refine And.intro ?_ ?_))) ?_)
 refine j6 hn ?_
 refine j5.fzAll 24 rfl ?_
 refine got hn ?_
 obtain rfl:=Option.some.inj h
 exact ⟨[],_,fm⟩

/- qclaw8.call -/
set_option maxRecDepth 100000 in
set_option maxHeartbeats 8000000 in
theorem bG5 (N:Nat) (a0:Int) (r:O4) (h:aX3 N a0=some r):Spec Try.prog 57 [] [.int a0] (.agg (bF3 r)) [] []:=by
 refine Spec.of z8 Try.func57 rfl Try.ntmps57 (by kernel_rfl) rfl rfl rfl fun Γ hn=>?_
 unfold aX3 at h
 refine j6 hn ?_
 refine j6 hn ?_
 refine Exists.intro (List.map eV [(⟨(3:Int),a0⟩:V)]) (And.intro (by repeat (first|exact trivial|exact rfl|(refine And.intro ?_ ?_))) ?_)
 refine j5.fzAll 6 rfl ?_
 refine got hn ?_
 obtain rfl:=Option.some.inj h
 exact ⟨[],_,fm⟩

/- qclaw8.alive -/
set_option maxRecDepth 100000 in
set_option maxHeartbeats 8000000 in
theorem bV6 (N:Nat) (r:Bool) (h:aO1 N =some r):Spec Try.prog 20 [] [] (.bool r) [] []:=by
 refine Spec.of z8 Try.func20 rfl Try.ntmps20 (by kernel_rfl) rfl rfl rfl fun Γ hn=>?_
 unfold aO1 at h
 refine j6 hn ?_
 refine j6 hn ?_
 obtain ⟨r1,hr2,h⟩:=j4 h
 show l8 Try.prog _ _ _ _
 refine cA (bB5 N  r1 hr2) ?_
 obtain ⟨r3,hr4,h⟩:=j4 h
 show l8 Try.prog _ _ _ _
 refine cA (bG5 N (4:Int) r3 hr4) ?_
 obtain ⟨r5,hr6,h⟩:=j4 h
 show l8 Try.prog _ _ _ _
 refine cA (aQ9 N r1 r3 (10:Int) [] [] r5 hr6) ?_
 refine j5.seqQ fun _ A0 _ _=>?_
 refine P5 hn (by kernel_rfl) ?_
 obtain ⟨r7,hr8,h⟩:=j4 h
 show l8 Try.prog _ _ _ _
 refine cA (bB5 N  r7 hr8) ?_
 obtain ⟨r9,hr10,h⟩:=j4 h
 show l8 Try.prog _ _ _ _
 refine cA (bG5 N (5:Int) r9 hr10) ?_
 obtain ⟨r11,hr12,h⟩:=j4 h
 show l8 Try.prog _ _ _ _
 refine cA (aQ9 N r7 r9 (10:Int) r5.cells r5.tallies r11 hr12) ?_
 refine A0 _ _ ?_
 refine j5.seqQ fun _ A1 _ _=>?_
 obtain ⟨o15,h14,h⟩:=j4 h
 refine jk (ι:={ s // o15=s }) hn (fun s=>[(0,.bool s.1)]) (fun s=>[]) [] [] (fun _ A2 _ _=>?_) ?_
 ·refine q8 hn ?_
  refine l5 h14 (fun hb16 h14=>?_) (fun hb16 h14=>?_)
  ·refine j3 hb16 ?_
   refine j3 hb16 ?_
   refine j3 hb16 ?_
   refine l5 h14 (fun hb17 h14=>?_) (fun hb17 h14=>?_)
   ·refine j3 hb17 ?_
    refine j3 hb17 ?_
    refine j3 hb17 ?_
    refine l5 h14 (fun hb18 h14=>?_) (fun hb18 h14=>?_)
    ·refine j3 hb18 ?_
     refine j3 hb18 ?_
     refine j3 hb18 ?_
     refine j3 hb18 ?_
     refine j3 hb18 ?_
     refine l5 h14 (fun hb19 h14=>?_) (fun hb19 h14=>?_)
     ·refine j3 hb19 ?_
      refine j3 hb19 ?_
      refine j3 hb19 ?_
      refine l5 h14 (fun hb20 h14=>?_) (fun hb20 h14=>?_)
      ·refine j3 hb20 ?_
       refine j3 hb20 ?_
       refine j3 hb20 ?_
       refine l5 h14 (fun hb21 h14=>?_) (fun hb21 h14=>?_)
       ·refine j3 hb21 ?_
        refine j3 hb21 ?_
        refine D5 (fun _=>?_)
        refine j3 hb21 ?_
        refine j3 hb21 ?_
        refine l5 h14 (fun hb23 h14=>?_) (fun hb23 h14=>?_)
        ·refine j3 hb23 ?_
         refine j3 hb23 ?_
         refine D5 (fun _=>?_)
         refine j3 hb23 ?_
         refine j3 hb23 ?_
         refine A2 _ _ ?_
         exact jn ⟨_,sj h14⟩ []
        refine d9 hb23 ?_
        refine d9 hb23 ?_
        refine d9 hb23 ?_
        refine d9 hb23 ?_
        refine A2 _ _ ?_
        exact jn ⟨_,sj h14⟩ []
       refine d9 hb21 ?_
       refine d9 hb21 ?_
       refine d9 hb21 ?_
       refine d9 hb21 ?_
       refine A2 _ _ ?_
       exact jn ⟨_,sj h14⟩ []
      refine d9 hb20 ?_
      refine d9 hb20 ?_
      refine d9 hb20 ?_
      refine A2 _ _ ?_
      exact jn ⟨_,sj h14⟩ []
     refine d9 hb19 ?_
     refine d9 hb19 ?_
     refine d9 hb19 ?_
     refine A2 _ _ ?_
     exact jn ⟨_,sj h14⟩ []
    refine d9 hb18 ?_
    refine d9 hb18 ?_
    refine d9 hb18 ?_
    refine d9 hb18 ?_
    refine d9 hb18 ?_
    refine A2 _ _ ?_
    exact jn ⟨_,sj h14⟩ []
   refine d9 hb17 ?_
   refine d9 hb17 ?_
   refine d9 hb17 ?_
   refine A2 _ _ ?_
   exact jn ⟨_,sj h14⟩ []
  refine d9 hb16 ?_
  refine d9 hb16 ?_
  refine d9 hb16 ?_
  refine A2 _ _ ?_
  exact jn ⟨_,sj h14⟩ []
 rintro ⟨v13,hv_⟩
 replace hv_:=hv_.symm
 subst hv_
 refine A1 _ _ ?_
 refine got hn ?_
 obtain rfl:=Option.some.inj h
 exact ⟨[],_,fm⟩

/- qclaw8.CachedAgain -/
set_option maxRecDepth 100000 in
set_option maxHeartbeats 8000000 in
theorem bG4 (N:Nat) (a0:Wd) (a1:O4) (r:Bool) (h:aG9 N a0 a1=some r):Spec Try.prog 6 [] [.agg (eWd a0),.agg (bF3 a1)] (.bool r) [] []:=by
 refine Spec.of z8 Try.func6 rfl Try.ntmps6 (by kernel_rfl) rfl rfl rfl fun Γ hn=>?_
 unfold aG9 at h
 refine j6 hn ?_
 refine j5.seqQ fun _ A0 _ R0=>?_
 refine j6 hn ?_
 obtain ⟨r1,hr2,h⟩:=j4 h
 show l8 Try.prog _ _ _ _
 refine cA (bV6 N  r1 hr2) ?_
 refine p8 hn ?_
 refine l5 h (fun hb3 h=>?_) (fun hb3 h=>?_)
 ·refine j6 hn ?_
  refine got hn ?_
  refine R0 _ _ ?_
  obtain rfl:=Option.some.inj h
  exact ⟨[],_,fm⟩
 refine p9 hn ?_
 refine A0 _ _ ?_
 refine j5.seqQ fun _ A1 _ R1=>?_
 refine j6 hn ?_
 obtain ⟨r4,hr5,h⟩:=j4 h
 show l8 Try.prog _ _ _ _
 refine cA (bW2 N a0 r4 hr5) ?_
 refine p8 hn ?_
 refine l5 h (fun hb6 h=>?_) (fun hb6 h=>?_)
 ·refine j6 hn ?_
  refine got hn ?_
  refine R1 _ _ ?_
  obtain rfl:=Option.some.inj h
  exact ⟨[],_,fm⟩
 refine p9 hn ?_
 refine A1 _ _ ?_
 refine j6 hn ?_
 obtain ⟨r7,hr8,h⟩:=j4 h
 show l8 Try.prog _ _ _ _
 refine cA (aQ9 N a0 a1 (400:Int) [] [] r7 hr8) ?_
 refine j6 hn ?_
 obtain ⟨r9,hr10,h⟩:=j4 h
 show l8 Try.prog _ _ _ _
 refine cA (aQ9 N a0 a1 (400:Int) r7.cells r7.tallies r9 hr10) ?_
 refine j5.seqQ fun _ A2 _ R2=>?_
 refine j5.seqQ fun _ A3 _ _=>?_
 obtain ⟨o13,h12,h⟩:=j4 h
 refine jk (ι:={ s // o13=s }) hn (fun s=>[(81,.bool s.1)]) (fun s=>[]) [(5,_),(6,_)] [(5,_),(6,_)] (fun _ A4 _ _=>?_) ?_
 ·refine kp [(5,_),(6,_)] [(5,_),(6,_)] ?_
  refine q8 hn ?_
  refine l5 h12 (fun hb14 h12=>?_) (fun hb14 h12=>?_)
  ·refine j3 hb14 ?_
   refine j3 hb14 ?_
   refine j3 hb14 ?_
   refine A4 _ _ ?_
   exact jn ⟨_,sj h12⟩ []
  refine d9 hb14 ?_
  refine d9 hb14 ?_
  refine d9 hb14 ?_
  refine l5 h12 (fun hb15 h12=>?_) (fun hb15 h12=>?_)
  ·refine j3 hb15 ?_
   refine j3 hb15 ?_
   refine j3 hb15 ?_
   refine A4 _ _ ?_
   exact jn ⟨_,sj h12⟩ []
  refine d9 hb15 ?_
  refine d9 hb15 ?_
  refine d9 hb15 ?_
  refine l5 h12 (fun hb16 h12=>?_) (fun hb16 h12=>?_)
  ·refine j3 hb16 ?_
   refine j3 hb16 ?_
   refine j3 hb16 ?_
   refine A4 _ _ ?_
   exact jn ⟨_,sj h12⟩ []
  refine d9 hb16 ?_
  refine d9 hb16 ?_
  refine d9 hb16 ?_
  refine l5 h12 (fun hb17 h12=>?_) (fun hb17 h12=>?_)
  ·refine j3 hb17 ?_
   refine j3 hb17 ?_
   refine j3 hb17 ?_
   refine A4 _ _ ?_
   exact jn ⟨_,sj h12⟩ []
  refine d9 hb17 ?_
  refine d9 hb17 ?_
  refine d9 hb17 ?_
  refine l5 h12 (fun hb18 h12=>?_) (fun hb18 h12=>?_)
  ·refine j3 hb18 ?_
   refine j3 hb18 ?_
   refine j3 hb18 ?_
   refine A4 _ _ ?_
   exact jn ⟨_,sj h12⟩ []
  refine d9 hb18 ?_
  refine d9 hb18 ?_
  refine d9 hb18 ?_
  refine l5 h12 (fun hb19 h12=>?_) (fun hb19 h12=>?_)
  ·refine j3 hb19 ?_
   refine j3 hb19 ?_
   refine j3 hb19 ?_
   refine A4 _ _ ?_
   exact jn ⟨_,sj h12⟩ []
  refine d9 hb19 ?_
  refine d9 hb19 ?_
  refine d9 hb19 ?_
  refine l5 h12 (fun hb20 h12=>?_) (fun hb20 h12=>?_)
  ·refine j3 hb20 ?_
   refine j3 hb20 ?_
   refine j3 hb20 ?_
   refine A4 _ _ ?_
   exact jn ⟨_,sj h12⟩ []
  refine d9 hb20 ?_
  refine d9 hb20 ?_
  refine d9 hb20 ?_
  refine l5 h12 (fun hb21 h12=>?_) (fun hb21 h12=>?_)
  ·refine j3 hb21 ?_
   refine j3 hb21 ?_
   refine j3 hb21 ?_
   refine A4 _ _ ?_
   exact jn ⟨_,sj h12⟩ []
  refine d9 hb21 ?_
  refine d9 hb21 ?_
  refine d9 hb21 ?_
  refine l5 h12 (fun hb22 h12=>?_) (fun hb22 h12=>?_)
  ·refine j3 hb22 ?_
   refine j3 hb22 ?_
   refine j3 hb22 ?_
   refine j3 hb22 ?_
   refine j3 hb22 ?_
   refine j3 hb22 ?_
   refine j3 hb22 ?_
   refine j3 hb22 ?_
   refine j3 hb22 ?_
   refine j3 hb22 ?_
   refine j3 hb22 ?_
   refine A4 _ _ ?_
   exact jn ⟨_,sj h12⟩ []
  refine d9 hb22 ?_
  refine d9 hb22 ?_
  refine d9 hb22 ?_
  refine d9 hb22 ?_
  refine Or.inr ?_
  refine d9 hb22 ?_
  refine d9 hb22 ?_
  refine d9 hb22 ?_
  refine d9 hb22 ?_
  refine d9 hb22 ?_
  refine Or.inr ?_
  refine d9 hb22 ?_
  refine d9 hb22 ?_
  refine A4 _ _ ?_
  exact jn ⟨_,sj h12⟩ []
 rintro ⟨v11,hv_⟩
 replace hv_:=hv_.symm
 subst hv_
 refine A3 _ _ ?_
 refine p8 hn ?_
 refine l5 h (fun hb23 h=>?_) (fun hb23 h=>?_)
 ·refine j6 hn ?_
  refine got hn ?_
  refine R2 _ _ ?_
  obtain rfl:=Option.some.inj h
  exact ⟨[],_,fm⟩
 refine p9 hn ?_
 refine A2 _ _ ?_
 refine j5.seqQ fun _ A5 _ R5=>?_
 refine j6 hn ?_
 refine D5 (fun hl24=>?_)
 obtain ⟨o26,h27,h⟩:=j4 h
 refine jk (ι:={ s // o26=D9.next s }) hn (fun s=>[]) (fun s=>[]) [(5,_),(6,_)] [(5,_),(6,_)] (fun _ A6 _ R6=>?_) ?_
 ·refine j5.blkQ fun _ _ E7 _ R7=>?_
  refine lq (ι:={ q:((List Ce)×Nat) // q.1=r7.cells.drop q.2∧M9 N q.1 q.2=some o26 }) hn (fun q=>[(85,.int (q.1.2:Int))]) (fun q=>[]) (fun q=>q.1.1.length) [(5,_),(6,_),(83,_),(84,_)] [(5,_),(6,_)] ⟨(r7.cells,0),rfl,h27⟩ [] ?_
  rintro ⟨⟨rest_,k25⟩,hd29,h27⟩ _ A8 X8 R8
  replace hd29:rest_=r7.cells.drop k25:=hd29
  rcases rest_ with _|⟨x31,rest28⟩
  ·have hlt33:=N9 hd29
   replace h27:=(M9.eq_1 _ _).symm.trans h27
   refine j6 hn ?_
   refine j5.seqQ fun _ _ X9 _=>?_
   refine p8 hn ?_
   refine d9 hlt33 ?_
   refine F6 hn ?_
   refine X9 _ _ _ ?_
   refine X8 _ _ _ ?_
   refine E7 _ _ ?_
   refine A6 _ _ ?_
   exact jn ⟨_,sj h27⟩ []
  ·obtain ⟨hx32,hd2,hlt33⟩:=H9 hd29
   replace h27:=(M9.eq_2 _ _ _ _).symm.trans h27
   refine j6 hn ?_
   refine j5.seqQ fun _ A10 _ _=>?_
   refine p8 hn ?_
   refine j3 hlt33 ?_
   refine p9 hn ?_
   refine A10 _ _ ?_
   refine j5.seqQ fun _ A11 _ R11=>?_
   refine j5.blkQ fun _ A12 _ _ R12=>?_
   refine j6 hn ?_
   refine aJ1 hx32 ?_
   refine j6 hn ?_
   refine p8 hn ?_
   refine l5 h27 (fun hb34 h27=>?_) (fun hb34 h27=>?_)
   ·refine j6 hn ?_
    refine got hn ?_
    refine R12 _ _ ?_
    refine R11 _ _ ?_
    refine R8 _ _ ?_
    refine R7 _ _ ?_
    refine R6 _ _ ?_
    refine R5 _ _ ?_
    obtain rfl:=Option.some.inj h27
    obtain rfl:=Option.some.inj h
    exact ⟨[],_,fm⟩
   refine p9 hn ?_
   refine A12 _ _ ?_
   refine A11 _ _ ?_
   refine q8 hn ?_
   refine Or.inl (And.intro (aE3 hx32 hl24) ?_)
   refine A8 _ _ ?_
   exact jn ⟨(rest28,k25+1),hd2,h27⟩ [] (by show rest28.length < rest28.length+1; omega)
 rintro ⟨⟨⟩,rfl⟩
 refine A5 _ _ ?_
 refine j5.seqQ fun _ A13 _ R13=>?_
 refine j6 hn ?_
 refine p8 hn ?_
 refine l5 h (fun hb35 h=>?_) (fun hb35 h=>?_)
 ·refine j6 hn ?_
  refine got hn ?_
  refine R13 _ _ ?_
  obtain rfl:=Option.some.inj h
  exact ⟨[],_,fm⟩
 refine p9 hn ?_
 refine A13 _ _ ?_
 refine j6 hn ?_
 refine got hn ?_
 obtain rfl:=Option.some.inj h
 exact ⟨[],_,fm⟩
end Go.Proofs.Ytahmeibkdhbngaa
