/- THE WALK of qcref1.New, by hand: methods are laid into a class that lies in a row. -/
import Derived.Test.YtibjcppjfkamhaaGreatDoorN
import Derived.Test.YtibjcppjfkamhaaGreatDoorIo
import Derived.Test.YtibjcppjfkamhaaGreatDoorHd
namespace Go.Proofs.YtibjcppjfkamhaaGreatDoor
open Go.RowKit
set_option linter.unusedVariables false
def newRow (a:AV):List (List AV):=[[.str ⟨#[79,98,106,101,99,116]⟩,.int (-1),.int 0,.nilsl],[.str ⟨#[78,105,108]⟩,.int 0,.int 0,.nilsl],[.str ⟨#[66,111,111,108]⟩,.int 0,.int 0,.nilsl],[.str ⟨#[73,110,116]⟩,.int 0,.int 0,a]]
theorem cU5 : ∀k:Nat,k < 5→∃x p,bL4[k]?=some x∧([3,1,2,4,5]:List Int)[k]?=some p∧Q0[k]?=some ⟨x,1,0,p,[]⟩
 |0,_=>⟨_,_,rfl,rfl,rfl⟩
 |1,_=>⟨_,_,rfl,rfl,rfl⟩
 |2,_=>⟨_,_,rfl,rfl,rfl⟩
 |3,_=>⟨_,_,rfl,rfl,rfl⟩
 |4,_=>⟨_,_,rfl,rfl,rfl⟩
 |k+5,h=>absurd h (by omega)
set_option maxRecDepth 100000 in
theorem bY0 (N:Nat) (r:Wd) (h:bB1 N=some r):Spec Tryz.prog 31 [] [] (.agg (eWd r)) [] []:=by
 obtain rfl:=Option.some.inj h
 refine Spec.of F3 Tryz.func31 rfl Tryz.ntmps31 (by kernel_rfl) rfl rfl rfl fun Γ hn=>?_
 (repeat (first|refine j6 hn ?_|refine p9 hn ?_|refine gob hn ?_|refine l7 hn ?_|refine H8 hn ?_|refine l9 hn ?_|refine got hn ?_))
 (try refine Or.inr ?_)
 refine Exists.intro (newRow .nilsl) (And.intro (by repeat (first|exact trivial|exact rfl|(refine And.intro ?_ ?_))) ?_)
 (repeat (first|refine j6 hn ?_|refine p9 hn ?_|refine gob hn ?_|refine l7 hn ?_|refine H8 hn ?_|refine l9 hn ?_|refine got hn ?_))
 refine Exists.intro (List.map aT3 bL4) (And.intro (by repeat (first|exact trivial|exact rfl|(refine And.intro ?_ ?_))) ?_)
 refine u7 (fun hl=>?_)
 show j4 Tryz.prog Γ _ _ _ _
 refine j4.gh (Gh.unnil (r:=8) (i:=3) (off:=3) (j:=104) (j':=105) (isz:=5) (ie:=27) rfl rfl rfl rfl rfl rfl rfl rfl) (fun _=>?_)
 refine j4.joinR (ι:=Hd) (fun g=>[(0,.ptr 0 0),(1,.ptr 1 0)]) (fun g=>[(0,.box [.nilsl,.nilsl,.int 0] 40),(1,.box [.own 8,.nilsl,.int 0] 40),(8,.row 4 (newRow (.con g.v)) 81),(104,.row 5 (Q0.map Z6) 27),(105,.eqv 104 g.v)]) (fun Qj nj xj rj=>?_) (by intro q; rw [hn]; rfl) ?_
 ·refine j4.blkQ fun Qb nb eb xb rb=>?_
  refine j4.loopQ (ι:={ q:Nat×Hd // q.1≤5 }) (fun q=>[(0,.ptr 0 0),(1,.ptr 1 0),(10,.own 10),(11,.int 5),(12,.int q.1.1)]) (fun q=>[(0,.box [.nilsl,.nilsl,.int 0] 40),(1,.box [.own 8,.nilsl,.int 0] 40),(8,.row 4 (newRow (.con q.1.2.v)) 81),(10,.row 1 (bL4.map aT3) 9),(104,.row 5 ((Q0.take q.1.1).map Z6) 27),(105,.eqv 104 q.1.2.v)]) (fun q=>5 - q.1.1) ⟨(0,⟨none,0,0⟩),by omega⟩ [] ⟨⟨rfl,rfl,rfl,rfl,rfl,trivial⟩,⟨rfl,rfl,rfl,rfl,rfl,rfl,trivial⟩,rfl,rfl⟩ (by intro q; rw [hn]; rfl) ?_
  rintro ⟨⟨k,hd⟩,hk⟩ Ql nl xl rl
  have hk:k≤5:=hk
  (repeat (first|refine j6 hn ?_|refine p9 hn ?_|refine gob hn ?_|refine l7 hn ?_|refine H8 hn ?_|refine l9 hn ?_|refine got hn ?_))
  refine b57 (fun hlt=>?_) (fun hge=>?_)
  ·have hlt:k < 5:=by have:(k:Int) < 5:=hlt; omega
   obtain ⟨x,p,hx,hp,hm⟩:=cU5 k hlt
   (repeat (first|refine j6 hn ?_|refine p9 hn ?_|refine gob hn ?_|refine l7 hn ?_|refine H8 hn ?_|refine l9 hn ?_|refine got hn ?_))
   refine aI8 (i:=(k:Int)) (by rw [K4]; exact hx) ?_
   refine ldM hx ?_
   show j4 Tryz.prog Γ _ _ _ _
   refine j4.snoc (god hn (by kernel_rfl) ?_)
   refine And.intro (by decide) (And.intro (by show (3:Int) < 4; decide) ?_)
   refine And.intro (by show 3 < 4; decide) (fun cs hcs=>?_)
   have hcs:(newRow (.con hd.v))[3]?=some cs:=hcs
   obtain rfl:cs=[.str ⟨#[73,110,116]⟩,.int 0,.int 0,.con hd.v]:=(Option.some.inj hcs).symm
   refine And.intro rfl ?_
   refine Exists.intro (List.map F7 [3,1,2,4,5]) (And.intro (by repeat (first|exact trivial|exact rfl|(refine And.intro ?_ ?_))) ?_)
   refine aI8 (i:=(k:Int)) (by rw [K4]; exact hp) ?_
   refine ldM hp ?_
   refine Exists.intro (List.map Z6 [⟨x,1,0,p,[]⟩]) (And.intro (by repeat (first|exact trivial|exact rfl|(refine And.intro ?_ ?_))) ?_)
   refine And.intro ?_ (Exists.intro (List.map Z6 (Q0.take k++[⟨x,1,0,p,[]⟩])) (And.intro (bL2 (H7 _)) ?_))
   ·show ((List.map Z6 (Q0.take k)).length+1)*64≤_
    rw [List.length_map,List.length_take]
    omega
   refine And.intro (by decide) (And.intro (by show (3:Int) < 4; decide) ?_)
   refine And.intro (by show 3 < 4; decide) (And.intro ?_ ?_)
   ·intro cs hcs
    have hcs:(newRow (.con hd.v))[3]?=some cs:=hcs
    obtain rfl:cs=[.str ⟨#[73,110,116]⟩,.int 0,.int 0,.con hd.v]:=(Option.some.inj hcs).symm
    show 3 < 4
    omega
   show Y3 Γ _ _ _
   refine Y3.gh (Gh.rowx 8 106 rfl rfl rfl (fun _=>rfl) rfl) (fun g=>?_)
   refine Y3.done ?_
   show j4 Tryz.prog Γ _ _ _ _
   (repeat (first|refine j6 hn ?_|refine p9 hn ?_|refine gob hn ?_|refine l7 hn ?_|refine H8 hn ?_|refine l9 hn ?_|refine got hn ?_))
   refine Or.inl (And.intro ⟨by omega,by omega⟩ ?_)
   refine nl _ _ ?_
   refine Y3.done ?_
   have e:Q0.take k++[⟨x,1,0,p,[]⟩]=Q0.take (k+1):=by rw [List.take_add_one,hm]; rfl
   refine ⟨⟨(k+1,g),hlt⟩,[(104,31),(105,106)],by show 5 - (k+1) < 5 - k; omega,⟨⟨rfl,rfl,rfl,rfl,rfl,trivial⟩,⟨rfl,rfl,rfl,rfl,?_,rfl,trivial⟩,rfl,rfl⟩⟩
   exact congrArg (fun q=>some (Obj.row 5 (List.map Z6 q) 27)) e
  ·have e:k=5:=by have:¬((k:Int) < 5):=hge; omega
   subst e
   (repeat (first|refine j6 hn ?_|refine p9 hn ?_|refine gob hn ?_|refine l7 hn ?_|refine H8 hn ?_|refine l9 hn ?_|refine got hn ?_))
   refine xl _ _ _ ?_
   refine eb _ _ ?_
   refine nj _ _ ?_
   refine Y3.done ?_
   exact ⟨hd,[],trivial,⟨⟨rfl,rfl,trivial⟩,⟨rfl,rfl,rfl,rfl,rfl,trivial⟩,rfl,rfl⟩⟩
 intro g
 show j4 Tryz.prog Γ _ _ _ _
 refine j4.fzIn 8 3 3 104 105 rfl rfl rfl rfl rfl rfl rfl rfl ?_
 refine j4.leRow 8 (List.map eCl U1.classes) rfl (by repeat (first|exact trivial|exact rfl|(refine And.intro ?_ ?_))) ?_
 refine j4.fzAll 8 rfl ?_
 (repeat (first|refine j6 hn ?_|refine p9 hn ?_|refine gob hn ?_|refine l7 hn ?_|refine H8 hn ?_|refine l9 hn ?_|refine got hn ?_))
 exact ⟨[],_,rfl,(by repeat (first|exact trivial|exact rfl|(refine And.intro ?_ ?_))),trivial,rfl,rfl,rfl,rfl,rfl⟩
end Go.Proofs.YtibjcppjfkamhaaGreatDoor
