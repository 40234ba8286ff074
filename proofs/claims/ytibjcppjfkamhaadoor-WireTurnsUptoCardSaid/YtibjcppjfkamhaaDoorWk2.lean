/- Walks after the mirrors. Printed by mir.py. -/
import Derived.Test.YtibjcppjfkamhaaDoorWk1
namespace Go.Proofs.YtibjcppjfkamhaaDoor
open Go.RowKit
set_option linter.unusedVariables false
/- qcref1.Text$1 -/
set_option maxRecDepth 100000 in
set_option maxHeartbeats 8000000 in
theorem O9 (N:Nat) (a0:(List Int)) (b0:ByteArray) (r:ByteArray) (h:I7 N a0 b0=some r):Spec Tryd.prog 24 [(1016,.box [.str b0] 9),(2000,GL)] [.sl 1 (List.map U6 a0),.ptr 1016 0] (.tup []) [(1016,.box [.str r] 9),(2000,GL)] []:=by
 refine Spec.of G7 Tryd.func24 rfl Tryd.ntmps24 (by kernel_rfl) rfl rfl rfl fun Γ hn=>?_
 unfold I7 at h
 refine j4.snoc ?_
 refine j6 hn ?_
 refine y9 (fun hl1=>?_)
 obtain ⟨o6,h7,h⟩:=j5 h
 refine jk (ι:={ s // o6=s }) hn (fun s=>[]) (fun s=>[(1016,.box [.str s.1] 9)]) [(1,_)] [(2000,_)] (fun _ A0 _ _=>?_) ?_
 ·refine j4.blkQ fun _ _ E1 _ _=>?_
  refine lq (ι:={ q:((List Int)×Nat×ByteArray) // q.1=a0.drop q.2.1∧K3 N q.1 q.2.1 q.2.2=some o6 }) hn (fun q=>[(7,.int (q.1.2.1:Int))]) (fun q=>[(1016,.box [.str q.1.2.2] 9)]) (fun q=>q.1.1.length) [(1,_),(5,_),(6,_)] [(2000,_)] ⟨(a0,0,b0),rfl,h7⟩ [] ?_
  rintro ⟨⟨rest_,k2,v3⟩,hd9,h7⟩ _ A2 X2 _
  replace hd9:rest_=a0.drop k2:=hd9
  rcases rest_ with _|⟨x11,rest8⟩
  ·have hlt13:=J7 hd9
   replace h7:=(K3.eq_1 _ _ _).symm.trans h7
   refine j6 hn ?_
   refine j4.seqQ fun _ _ X3 _=>?_
   refine l9 hn ?_
   refine j3 hlt13 ?_
   refine K4 hn ?_
   refine X3 _ _ _ ?_
   refine X2 _ _ _ ?_
   refine E1 _ _ ?_
   refine A0 _ _ ?_
   exact jn ⟨_,sj h7⟩ []
  ·obtain ⟨hx12,hd2,hlt13⟩:=D6 hd9
   replace h7:=(K3.eq_2 _ _ _ _ _).symm.trans h7
   refine j6 hn ?_
   refine j4.seqQ fun _ A4 _ _=>?_
   refine l9 hn ?_
   refine d9 hlt13 ?_
   refine u7 hn ?_
   refine A4 _ _ ?_
   refine j4.seqQ fun _ A5 _ _=>?_
   refine j4.blkQ fun _ A6 _ _ _=>?_
   refine j6 hn ?_
   refine aA3 hx12 ?_
   refine god hn (by kernel_rfl) ?_
   obtain ⟨r14,hr15,h7⟩:=j5 h7
   show l7 Tryd.prog _ _ _ _
   refine cA (aI5 N x11 r14 hr15) ?_
   obtain ⟨hg16,h7⟩:=K6 h7
   refine aT5 hg16 ?_
   obtain ⟨hg17,h7⟩:=K6 h7
   refine aT5 hg17 ?_
   refine A6 _ _ ?_
   refine A5 _ _ ?_
   refine y8 hn ?_
   refine Or.inl (And.intro (aA0 hx12 hl1) ?_)
   refine A2 _ _ ?_
   exact jn ⟨(rest8,k2+1,((v3++r14)++(⟨#[32]⟩:ByteArray))),hd2,h7⟩ [] (by show rest8.length < rest8.length+1; omega)
 rintro ⟨v5,hv_⟩
 replace hv_:=hv_.symm
 subst hv_
 refine Q6.done ?_
 obtain rfl:=Option.some.inj h
 exact ⟨[],_,fm⟩

/- qcref1.Text -/
set_option maxRecDepth 100000 in
set_option maxHeartbeats 8000000 in
theorem bI0 (N:Nat) (a0:Wd) (r:ByteArray) (h:aG6 N a0=some r):Spec Tryd.prog 11 [(2000,GL)] [.agg (eWd a0)] (.str r) [(2000,GL)] []:=by
 refine Spec.of G7 Tryd.func11 rfl Tryd.ntmps11 (by kernel_rfl) rfl rfl rfl fun Γ hn=>?_
 unfold aG6 at h
 refine j6 hn ?_
 refine j6 hn ?_
 refine j6 hn ?_
 refine j6 hn ?_
 refine y9 (fun _=>?_)
 refine Exists.intro (List.map U6 [a0.epoch,(a0.classes.length:Int)]) (And.intro (by repeat (first|exact trivial|exact rfl|(refine And.intro ?_ ?_))) ?_)
 obtain ⟨r2,hr3,h⟩:=j5 h
 show l7 Tryd.prog _ _ _ _
 refine cF ((O9 N [a0.epoch,(a0.classes.length:Int)] (⟨#[]⟩:ByteArray) r2 hr3).sw 1016 3) ?_
 refine j4.seqQ fun _ A0 _ _=>?_
 refine j6 hn ?_
 refine y9 (fun hl4=>?_)
 obtain ⟨o9,h10,h⟩:=j5 h
 refine jk (ι:={ s // o9=s }) hn (fun s=>[]) (fun s=>[(3,.box [.str s.1] 9)]) [(1,_),(3,_),(4,_)] [(1,_),(2000,_)] (fun _ A1 _ _=>?_) ?_
 ·refine j4.blkQ fun _ _ E2 _ _=>?_
  refine lq (ι:={ q:((List Cl)×Nat×ByteArray) // q.1=a0.classes.drop q.2.1∧N9 N q.1 q.2.1 q.2.2=some o9 }) hn (fun q=>[(27,.int (q.1.2.1:Int))]) (fun q=>[(3,.box [.str q.1.2.2] 9)]) (fun q=>q.1.1.length) [(1,_),(3,_),(4,_),(25,_),(26,_)] [(1,_),(2000,_)] ⟨(a0.classes,0,r2),rfl,h10⟩ [] ?_
  rintro ⟨⟨rest_,k5,v6⟩,hd12,h10⟩ _ A3 X3 _
  replace hd12:rest_=a0.classes.drop k5:=hd12
  rcases rest_ with _|⟨x14,rest11⟩
  ·have hlt16:=J7 hd12
   replace h10:=(N9.eq_1 _ _ _).symm.trans h10
   refine j6 hn ?_
   refine j4.seqQ fun _ _ X4 _=>?_
   refine l9 hn ?_
   refine j3 hlt16 ?_
   refine K4 hn ?_
   refine X4 _ _ _ ?_
   refine X3 _ _ _ ?_
   refine E2 _ _ ?_
   refine A1 _ _ ?_
   exact jn ⟨_,sj h10⟩ []
  ·obtain ⟨hx15,hd2,hlt16⟩:=D6 hd12
   replace h10:=(N9.eq_2 _ _ _ _ _).symm.trans h10
   refine j6 hn ?_
   refine j4.seqQ fun _ A5 _ _=>?_
   refine l9 hn ?_
   refine d9 hlt16 ?_
   refine u7 hn ?_
   refine A5 _ _ ?_
   refine j4.seqQ fun _ A6 _ _=>?_
   refine j4.blkQ fun _ A7 _ _ _=>?_
   refine j6 hn ?_
   refine aA3 hx15 ?_
   refine j6 hn ?_
   obtain ⟨hg17,h10⟩:=K6 h10
   refine aT5 hg17 ?_
   obtain ⟨hg18,h10⟩:=K6 h10
   refine aT5 hg18 ?_
   refine j6 hn ?_
   refine y9 (fun _=>?_)
   refine Exists.intro (List.map U6 [x14.super,x14.slots,(x14.methods.length:Int)]) (And.intro (by repeat (first|exact trivial|exact rfl|(refine And.intro ?_ ?_))) ?_)
   obtain ⟨r20,hr21,h10⟩:=j5 h10
   show l7 Tryd.prog _ _ _ _
   refine cF ((O9 N [x14.super,x14.slots,(x14.methods.length:Int)] ((v6++x14.name)++(⟨#[32]⟩:ByteArray)) r20 hr21).sw 1016 3) ?_
   refine kp [(1,_),(3,_),(4,_),(6,_),(25,_),(26,_),(27,_)] [(1,_),(3,_),(6,_),(2000,_)] ?_
   refine j6 hn ?_
   refine y9 (fun hl22=>?_)
   obtain ⟨o27,h28,h10⟩:=j5 h10
   refine jk (ι:={ s // o27=s }) hn (fun s=>[]) (fun s=>[(3,.box [.str s.1] 9)]) [(1,_),(3,_),(4,_),(25,_),(26,_),(27,_)] [(1,_),(2000,_)] (fun _ A8 _ _=>?_) ?_
   ·refine j4.blkQ fun _ _ E9 _ _=>?_
    refine lq (ι:={ q:((List Me)×Nat×ByteArray) // q.1=x14.methods.drop q.2.1∧K8 N q.1 q.2.1 q.2.2=some o27 }) hn (fun q=>[(49,.int (q.1.2.1:Int))]) (fun q=>[(3,.box [.str q.1.2.2] 9)]) (fun q=>q.1.1.length) [(1,_),(3,_),(4,_),(25,_),(26,_),(27,_),(47,_),(48,_)] [(1,_),(2000,_)] ⟨(x14.methods,0,r20),rfl,h28⟩ [] ?_
    rintro ⟨⟨rest_,k23,v24⟩,hd30,h28⟩ _ A10 X10 _
    replace hd30:rest_=x14.methods.drop k23:=hd30
    rcases rest_ with _|⟨x32,rest29⟩
    ·have hlt34:=J7 hd30
     replace h28:=(K8.eq_1 _ _ _).symm.trans h28
     refine j6 hn ?_
     refine j4.seqQ fun _ _ X11 _=>?_
     refine l9 hn ?_
     refine j3 hlt34 ?_
     refine K4 hn ?_
     refine X11 _ _ _ ?_
     refine X10 _ _ _ ?_
     refine E9 _ _ ?_
     refine A8 _ _ ?_
     exact jn ⟨_,sj h28⟩ []
    ·obtain ⟨hx33,hd2,hlt34⟩:=D6 hd30
     replace h28:=(K8.eq_2 _ _ _ _ _).symm.trans h28
     refine j6 hn ?_
     refine j4.seqQ fun _ A12 _ _=>?_
     refine l9 hn ?_
     refine d9 hlt34 ?_
     refine u7 hn ?_
     refine A12 _ _ ?_
     refine j4.seqQ fun _ A13 _ _=>?_
     refine j4.blkQ fun _ A14 _ _ _=>?_
     refine j6 hn ?_
     refine aA3 hx33 ?_
     refine j6 hn ?_
     obtain ⟨hg35,h28⟩:=K6 h28
     refine aT5 hg35 ?_
     obtain ⟨hg36,h28⟩:=K6 h28
     refine aT5 hg36 ?_
     refine kp [(1,_),(3,_),(4,_),(8,_),(25,_),(26,_),(27,_),(47,_),(48,_),(49,_)] [(1,_),(3,_),(8,_),(2000,_)] ?_
     refine j6 hn ?_
     refine y9 (fun _=>?_)
     refine Exists.intro (List.map U6 [x32.args,x32.temps,x32.prim,(x32.code.length:Int)]) (And.intro (by repeat (first|exact trivial|exact rfl|(refine And.intro ?_ ?_))) ?_)
     obtain ⟨r38,hr39,h28⟩:=j5 h28
     show l7 Tryd.prog _ _ _ _
     refine cF ((O9 N [x32.args,x32.temps,x32.prim,(x32.code.length:Int)] ((v24++x32.name)++(⟨#[32]⟩:ByteArray)) r38 hr39).sw 1016 3) ?_
     refine kp [(1,_),(3,_),(4,_),(8,_),(25,_),(26,_),(27,_),(47,_),(48,_),(49,_)] [(1,_),(3,_),(8,_),(2000,_)] ?_
     refine j6 hn ?_
     refine y9 (fun hl40=>?_)
     obtain ⟨o45,h46,h28⟩:=j5 h28
     refine jk (ι:={ s // o45=s }) hn (fun s=>[]) (fun s=>[(3,.box [.str s.1] 9)]) [(1,_),(3,_),(4,_),(25,_),(26,_),(27,_),(47,_),(48,_),(49,_)] [(1,_),(2000,_)] (fun _ A15 _ _=>?_) ?_
     ·refine j4.blkQ fun _ _ E16 _ _=>?_
      refine lq (ι:={ q:((List Ins)×Nat×ByteArray) // q.1=x32.code.drop q.2.1∧N7 N q.1 q.2.1 q.2.2=some o45 }) hn (fun q=>[(73,.int (q.1.2.1:Int))]) (fun q=>[(3,.box [.str q.1.2.2] 9)]) (fun q=>q.1.1.length) [(1,_),(3,_),(4,_),(25,_),(26,_),(27,_),(47,_),(48,_),(49,_),(71,_),(72,_)] [(1,_),(2000,_)] ⟨(x32.code,0,r38),rfl,h46⟩ [] ?_
      rintro ⟨⟨rest_,k41,v42⟩,hd48,h46⟩ _ A17 X17 _
      replace hd48:rest_=x32.code.drop k41:=hd48
      rcases rest_ with _|⟨x50,rest47⟩
      ·have hlt52:=J7 hd48
       replace h46:=(N7.eq_1 _ _ _).symm.trans h46
       refine j6 hn ?_
       refine j4.seqQ fun _ _ X18 _=>?_
       refine l9 hn ?_
       refine j3 hlt52 ?_
       refine K4 hn ?_
       refine X18 _ _ _ ?_
       refine X17 _ _ _ ?_
       refine E16 _ _ ?_
       refine A15 _ _ ?_
       exact jn ⟨_,sj h46⟩ []
      ·obtain ⟨hx51,hd2,hlt52⟩:=D6 hd48
       replace h46:=(N7.eq_2 _ _ _ _ _).symm.trans h46
       refine j6 hn ?_
       refine j4.seqQ fun _ A19 _ _=>?_
       refine l9 hn ?_
       refine d9 hlt52 ?_
       refine u7 hn ?_
       refine A19 _ _ ?_
       refine j4.seqQ fun _ A20 _ _=>?_
       obtain ⟨o55,h54,h46⟩:=j5 h46
       refine jk (ι:={ s // o55=s }) hn (fun s=>[]) (fun s=>[(3,.box [.str s.1] 9)]) [(1,_),(3,_),(4,_),(25,_),(26,_),(27,_),(47,_),(48,_),(49,_),(71,_),(72,_),(73,_)] [(1,_),(2000,_)] (fun _ A21 _ _=>?_) ?_
       ·refine j4.blkQ fun _ A22 _ _ _=>?_
        refine j6 hn ?_
        refine aA3 hx51 ?_
        refine j6 hn ?_
        refine Exists.intro (List.map U6 [x50.op,x50.a]) (And.intro (by repeat (first|exact trivial|exact rfl|(refine And.intro ?_ ?_))) ?_)
        obtain ⟨r56,hr57,h54⟩:=j5 h54
        show l7 Tryd.prog _ _ _ _
        refine cF ((O9 N [x50.op,x50.a] v42 r56 hr57).sw 1016 3) ?_
        refine kp [(1,_),(3,_),(4,_),(10,_),(25,_),(26,_),(27,_),(47,_),(48,_),(49,_),(71,_),(72,_),(73,_)] [(1,_),(3,_),(10,_),(2000,_)] ?_
        refine j6 hn ?_
        obtain ⟨o60,h59,h54⟩:=j5 h54
        refine jk (ι:={ s // o60=s }) hn (fun s=>[]) (fun s=>[(3,.box [.str s.1] 9)]) [(1,_),(3,_),(4,_),(25,_),(26,_),(27,_),(47,_),(48,_),(49,_),(71,_),(72,_),(73,_)] [(1,_),(2000,_)] (fun _ A23 _ _=>?_) ?_
        ·refine l9 hn ?_
         refine l5 h59 (fun hb61 h59=>?_) (fun hb61 h59=>?_)
         ·refine y8 hn ?_
          obtain ⟨hg62,h59⟩:=K6 h59
          refine aT5 hg62 ?_
          obtain ⟨hg63,h59⟩:=K6 h59
          refine aT5 hg63 ?_
          refine A23 _ _ ?_
          exact jn ⟨_,sj h59⟩ []
         refine u7 hn ?_
         refine A23 _ _ ?_
         exact jn ⟨_,sj h59⟩ []
        rintro ⟨v58,hv_⟩
        replace hv_:=hv_.symm
        subst hv_
        refine A22 _ _ ?_
        refine A21 _ _ ?_
        exact jn ⟨_,sj h54⟩ []
       rintro ⟨v53,hv_⟩
       replace hv_:=hv_.symm
       subst hv_
       refine A20 _ _ ?_
       refine y8 hn ?_
       refine Or.inl (And.intro (aA0 hx51 hl40) ?_)
       refine A17 _ _ ?_
       exact jn ⟨(rest47,k41+1,v53),hd2,h46⟩ [] (by show rest47.length < rest47.length+1; omega)
     rintro ⟨v44,hv_⟩
     replace hv_:=hv_.symm
     subst hv_
     refine A14 _ _ ?_
     refine A13 _ _ ?_
     refine y8 hn ?_
     refine Or.inl (And.intro (aA0 hx33 hl22) ?_)
     refine A10 _ _ ?_
     exact jn ⟨(rest29,k23+1,v44),hd2,h28⟩ [] (by show rest29.length < rest29.length+1; omega)
   rintro ⟨v26,hv_⟩
   replace hv_:=hv_.symm
   subst hv_
   refine A7 _ _ ?_
   refine A6 _ _ ?_
   refine y8 hn ?_
   refine Or.inl (And.intro (aA0 hx15 hl4) ?_)
   refine A3 _ _ ?_
   exact jn ⟨(rest11,k5+1,v26),hd2,h10⟩ [] (by show rest11.length < rest11.length+1; omega)
 rintro ⟨v8,hv_⟩
 replace hv_:=hv_.symm
 subst hv_
 refine A0 _ _ ?_
 refine j6 hn ?_
 refine y9 (fun _=>?_)
 refine Exists.intro (List.map U6 [(a0.heap.length:Int)]) (And.intro (by repeat (first|exact trivial|exact rfl|(refine And.intro ?_ ?_))) ?_)
 obtain ⟨r65,hr66,h⟩:=j5 h
 show l7 Tryd.prog _ _ _ _
 refine cF ((O9 N [(a0.heap.length:Int)] v8 r65 hr66).sw 1016 3) ?_
 refine j4.seqQ fun _ A24 _ _=>?_
 refine j6 hn ?_
 refine y9 (fun hl67=>?_)
 obtain ⟨o72,h73,h⟩:=j5 h
 refine jk (ι:={ s // o72=s }) hn (fun s=>[]) (fun s=>[(3,.box [.str s.1] 9)]) [(3,_)] [(2000,_)] (fun _ A25 _ _=>?_) ?_
 ·refine j4.blkQ fun _ _ E26 _ _=>?_
  refine lq (ι:={ q:((List Ob)×Nat×ByteArray) // q.1=a0.heap.drop q.2.1∧P8 N q.1 q.2.1 q.2.2=some o72 }) hn (fun q=>[(104,.int (q.1.2.1:Int))]) (fun q=>[(3,.box [.str q.1.2.2] 9)]) (fun q=>q.1.1.length) [(3,_),(4,_),(102,_),(103,_)] [(2000,_)] ⟨(a0.heap,0,r65),rfl,h73⟩ [] ?_
  rintro ⟨⟨rest_,k68,v69⟩,hd75,h73⟩ _ A27 X27 _
  replace hd75:rest_=a0.heap.drop k68:=hd75
  rcases rest_ with _|⟨x77,rest74⟩
  ·have hlt79:=J7 hd75
   replace h73:=(P8.eq_1 _ _ _).symm.trans h73
   refine j6 hn ?_
   refine j4.seqQ fun _ _ X28 _=>?_
   refine l9 hn ?_
   refine j3 hlt79 ?_
   refine K4 hn ?_
   refine X28 _ _ _ ?_
   refine X27 _ _ _ ?_
   refine E26 _ _ ?_
   refine A25 _ _ ?_
   exact jn ⟨_,sj h73⟩ []
  ·obtain ⟨hx78,hd2,hlt79⟩:=D6 hd75
   replace h73:=(P8.eq_2 _ _ _ _ _).symm.trans h73
   refine j6 hn ?_
   refine j4.seqQ fun _ A29 _ _=>?_
   refine l9 hn ?_
   refine d9 hlt79 ?_
   refine u7 hn ?_
   refine A29 _ _ ?_
   refine j4.seqQ fun _ A30 _ _=>?_
   refine j4.blkQ fun _ A31 _ _ _=>?_
   refine j6 hn ?_
   refine aA3 hx78 ?_
   refine j6 hn ?_
   refine y9 (fun _=>?_)
   refine Exists.intro (List.map U6 [x77.cls,(x77.slots.length:Int)]) (And.intro (by repeat (first|exact trivial|exact rfl|(refine And.intro ?_ ?_))) ?_)
   obtain ⟨r81,hr82,h73⟩:=j5 h73
   show l7 Tryd.prog _ _ _ _
   refine cF ((O9 N [x77.cls,(x77.slots.length:Int)] v69 r81 hr82).sw 1016 3) ?_
   refine kp [(3,_),(4,_),(12,_),(102,_),(103,_),(104,_)] [(3,_),(12,_),(2000,_)] ?_
   refine j6 hn ?_
   refine y9 (fun hl83=>?_)
   obtain ⟨o88,h89,h73⟩:=j5 h73
   refine jk (ι:={ s // o88=s }) hn (fun s=>[]) (fun s=>[(3,.box [.str s.1] 9)]) [(3,_),(4,_),(102,_),(103,_),(104,_)] [(2000,_)] (fun _ A32 _ _=>?_) ?_
   ·refine j4.blkQ fun _ _ E33 _ _=>?_
    refine lq (ι:={ q:((List V)×Nat×ByteArray) // q.1=x77.slots.drop q.2.1∧P9 N q.1 q.2.1 q.2.2=some o88 }) hn (fun q=>[(119,.int (q.1.2.1:Int))]) (fun q=>[(3,.box [.str q.1.2.2] 9)]) (fun q=>q.1.1.length) [(3,_),(4,_),(102,_),(103,_),(104,_),(117,_),(118,_)] [(2000,_)] ⟨(x77.slots,0,r81),rfl,h89⟩ [] ?_
    rintro ⟨⟨rest_,k84,v85⟩,hd91,h89⟩ _ A34 X34 _
    replace hd91:rest_=x77.slots.drop k84:=hd91
    rcases rest_ with _|⟨x93,rest90⟩
    ·have hlt95:=J7 hd91
     replace h89:=(P9.eq_1 _ _ _).symm.trans h89
     refine j6 hn ?_
     refine j4.seqQ fun _ _ X35 _=>?_
     refine l9 hn ?_
     refine j3 hlt95 ?_
     refine K4 hn ?_
     refine X35 _ _ _ ?_
     refine X34 _ _ _ ?_
     refine E33 _ _ ?_
     refine A32 _ _ ?_
     exact jn ⟨_,sj h89⟩ []
    ·obtain ⟨hx94,hd2,hlt95⟩:=D6 hd91
     replace h89:=(P9.eq_2 _ _ _ _ _).symm.trans h89
     refine j6 hn ?_
     refine j4.seqQ fun _ A36 _ _=>?_
     refine l9 hn ?_
     refine d9 hlt95 ?_
     refine u7 hn ?_
     refine A36 _ _ ?_
     refine j4.seqQ fun _ A37 _ _=>?_
     refine j4.blkQ fun _ A38 _ _ _=>?_
     refine j6 hn ?_
     refine aA3 hx94 ?_
     refine y8 hn ?_
     refine Exists.intro (List.map U6 [x93.k,x93.n]) (And.intro (by repeat (first|exact trivial|exact rfl|(refine And.intro ?_ ?_))) ?_)
     obtain ⟨r96,hr97,h89⟩:=j5 h89
     show l7 Tryd.prog _ _ _ _
     refine cF ((O9 N [x93.k,x93.n] v85 r96 hr97).sw 1016 3) ?_
     refine A38 _ _ ?_
     refine A37 _ _ ?_
     refine kp [(3,_),(4,_),(102,_),(103,_),(104,_),(117,_),(118,_),(119,_)] [(3,_),(2000,_)] ?_
     refine y8 hn ?_
     refine Or.inl (And.intro (aA0 hx94 hl83) ?_)
     refine A34 _ _ ?_
     exact jn ⟨(rest90,k84+1,r96),hd2,h89⟩ [] (by show rest90.length < rest90.length+1; omega)
   rintro ⟨v87,hv_⟩
   replace hv_:=hv_.symm
   subst hv_
   refine A31 _ _ ?_
   refine A30 _ _ ?_
   refine y8 hn ?_
   refine Or.inl (And.intro (aA0 hx78 hl67) ?_)
   refine A27 _ _ ?_
   exact jn ⟨(rest74,k68+1,v87),hd2,h73⟩ [] (by show rest74.length < rest74.length+1; omega)
 rintro ⟨v71,hv_⟩
 replace hv_:=hv_.symm
 subst hv_
 refine A24 _ _ ?_
 refine j6 hn ?_
 refine got hn ?_
 obtain rfl:=Option.some.inj h
 exact ⟨[],_,fm⟩

/- qclaw4.alive -/
set_option maxRecDepth 100000 in
set_option maxHeartbeats 8000000 in
theorem bG3 (N:Nat) (r:Bool) (h:aF2 N =some r):Spec Tryd.prog 5 [(2000,GL)] [] (.bool r) [(2000,GL)] []:=by
 refine Spec.of G7 Tryd.func5 rfl Tryd.ntmps5 (by kernel_rfl) rfl rfl rfl fun Γ hn=>?_
 unfold aF2 at h
 refine j6 hn ?_
 refine j6 hn ?_
 obtain ⟨r1,hr2,h⟩:=j5 h
 show l7 Tryd.prog _ _ _ _
 refine cA (aY8 N  r1 hr2) ?_
 obtain ⟨r3,hr4,h⟩:=j5 h
 show l7 Tryd.prog _ _ _ _
 refine cA (aM9 N r1 r3 hr4) ?_
 refine j6 hn ?_
 obtain ⟨r5,hr6,h⟩:=j5 h
 show l7 Tryd.prog _ _ _ _
 refine cA (aN1 N r3 r5 hr6) ?_
 refine j4.seqQ fun _ A0 _ _=>?_
 obtain ⟨o9,h8,h⟩:=j5 h
 refine jk (ι:={ s // o9=s }) hn (fun s=>[(0,.bool s.1)]) (fun s=>[]) [] [(2000,_)] (fun _ A1 _ _=>?_) ?_
 ·refine kp [(1,_),(2,_),(3,_)] [(2,_),(2000,_)] ?_
  refine god hn (by kernel_rfl) ?_
  refine l5 h8 (fun hb10 h8=>?_) (fun hb10 h8=>?_)
  ·refine d9 hb10 ?_
   refine d9 hb10 ?_
   refine y9 (fun _=>?_)
   refine d9 hb10 ?_
   refine d9 hb10 ?_
   refine l5 h8 (fun hb12 h8=>?_) (fun hb12 h8=>?_)
   ·refine d9 hb12 ?_
    refine Exists.intro r3 (And.intro rfl ?_)
    refine d9 hb12 ?_
    obtain ⟨r13,hr14,h8⟩:=j5 h8
    show l7 Tryd.prog _ _ _ _
    refine cA (aY8 N  r13 hr14) ?_
    refine d9 hb12 ?_
    obtain ⟨r15,hr16,h8⟩:=j5 h8
    show l7 Tryd.prog _ _ _ _
    refine cA (bI0 N r13 r15 hr16) ?_
    refine d9 hb12 ?_
    refine d9 hb12 ?_
    refine l5 h8 (fun hb17 h8=>?_) (fun hb17 h8=>?_)
    ·refine d9 hb17 ?_
     obtain ⟨r18,hr19,h8⟩:=j5 h8
     show l7 Tryd.prog _ _ _ _
     refine cA (aD9 N r5.1 r18 hr19) ?_
     refine d9 hb17 ?_
     refine d9 hb17 ?_
     refine l5 h8 (fun hb20 h8=>?_) (fun hb20 h8=>?_)
     ·refine d9 hb20 ?_
      obtain ⟨r21,hr22,h8⟩:=j5 h8
      show l7 Tryd.prog _ _ _ _
      refine cA (aD9 N (⟨[],[],(0:Int)⟩:Wd) r21 hr22) ?_
      refine d9 hb20 ?_
      refine d9 hb20 ?_
      refine A1 _ _ ?_
      exact jn ⟨_,sj h8⟩ []
     refine j3 hb20 ?_
     refine j3 hb20 ?_
     refine j3 hb20 ?_
     refine A1 _ _ ?_
     exact jn ⟨_,sj h8⟩ []
    refine j3 hb17 ?_
    refine j3 hb17 ?_
    refine j3 hb17 ?_
    refine A1 _ _ ?_
    exact jn ⟨_,sj h8⟩ []
   refine j3 hb12 ?_
   refine j3 hb12 ?_
   refine j3 hb12 ?_
   refine j3 hb12 ?_
   refine j3 hb12 ?_
   refine A1 _ _ ?_
   exact jn ⟨_,sj h8⟩ []
  refine j3 hb10 ?_
  refine j3 hb10 ?_
  refine j3 hb10 ?_
  refine j3 hb10 ?_
  refine A1 _ _ ?_
  exact jn ⟨_,sj h8⟩ []
 rintro ⟨v7,hv_⟩
 replace hv_:=hv_.symm
 subst hv_
 refine A0 _ _ ?_
 refine got hn ?_
 obtain rfl:=Option.some.inj h
 exact ⟨[],_,fm⟩

/- qcref1.SameCode -/
set_option maxRecDepth 100000 in
set_option maxHeartbeats 8000000 in
theorem a03 (N:Nat) (a0:(List Ins)) (a1:(List Ins)) (r:Bool) (h:aB7 N a0 a1=some r):Spec Tryd.prog 23 [] [.sl 5 (List.map aJ4 a0),.sl 5 (List.map aJ4 a1)] (.bool r) [] []:=by
 refine Spec.of G7 Tryd.func23 rfl Tryd.ntmps23 (by kernel_rfl) rfl rfl rfl fun Γ hn=>?_
 unfold aB7 at h
 refine j6 hn ?_
 refine j4.seqQ fun _ A0 _ R0=>?_
 refine j6 hn ?_
 refine y9 (fun _=>?_)
 refine y9 (fun _=>?_)
 refine l9 hn ?_
 refine l5 h (fun hb3 h=>?_) (fun hb3 h=>?_)
 ·refine j6 hn ?_
  refine got hn ?_
  refine R0 _ _ ?_
  obtain rfl:=Option.some.inj h
  exact ⟨[],_,fm⟩
 refine u7 hn ?_
 refine A0 _ _ ?_
 refine j4.seqQ fun _ A1 _ R1=>?_
 refine j6 hn ?_
 refine y9 (fun hl4=>?_)
 obtain ⟨o6,h7,h⟩:=j5 h
 refine jk (ι:={ s // o6=F7.next s }) hn (fun s=>[]) (fun s=>[]) [] [] (fun _ A2 _ R2=>?_) ?_
 ·refine j4.blkQ fun _ _ E3 _ R3=>?_
  refine lq (ι:={ q:((List Ins)×Nat) // q.1=a0.drop q.2∧M8 N a1 q.1 q.2=some o6 }) hn (fun q=>[(13,.int (q.1.2:Int))]) (fun q=>[]) (fun q=>q.1.1.length) [(0,_),(1,_),(12,_)] [] ⟨(a0,0),rfl,h7⟩ [] ?_
  rintro ⟨⟨rest_,k5⟩,hd9,h7⟩ _ A4 X4 R4
  replace hd9:rest_=a0.drop k5:=hd9
  rcases rest_ with _|⟨x11,rest8⟩
  ·have hlt13:=J7 hd9
   replace h7:=(M8.eq_1 _ _ _).symm.trans h7
   refine j6 hn ?_
   refine j4.seqQ fun _ _ X5 _=>?_
   refine l9 hn ?_
   refine j3 hlt13 ?_
   refine K4 hn ?_
   refine X5 _ _ _ ?_
   refine X4 _ _ _ ?_
   refine E3 _ _ ?_
   refine A2 _ _ ?_
   exact jn ⟨_,sj h7⟩ []
  ·obtain ⟨hx12,hd2,hlt13⟩:=D6 hd9
   replace h7:=(M8.eq_2 _ _ _ _ _).symm.trans h7
   refine j6 hn ?_
   refine j4.seqQ fun _ A6 _ _=>?_
   refine l9 hn ?_
   refine d9 hlt13 ?_
   refine u7 hn ?_
   refine A6 _ _ ?_
   refine j4.seqQ fun _ A7 _ R7=>?_
   refine j4.blkQ fun _ A8 _ _ R8=>?_
   refine j6 hn ?_
   refine j4.seqQ fun _ A9 _ _=>?_
   refine god hn (by kernel_rfl) ?_
   refine aA3 hx12 ?_
   obtain ⟨x14,hx15,h7⟩:=j5 h7
   refine aD0 hx15 ?_
   refine A9 _ _ ?_
   refine l9 hn ?_
   refine l5 h7 (fun hb16 h7=>?_) (fun hb16 h7=>?_)
   ·refine j6 hn ?_
    refine got hn ?_
    refine R8 _ _ ?_
    refine R7 _ _ ?_
    refine R4 _ _ ?_
    refine R3 _ _ ?_
    refine R2 _ _ ?_
    refine R1 _ _ ?_
    obtain rfl:=Option.some.inj h7
    obtain rfl:=Option.some.inj h
    exact ⟨[],_,fm⟩
   refine u7 hn ?_
   refine A8 _ _ ?_
   refine A7 _ _ ?_
   refine y8 hn ?_
   refine Or.inl (And.intro (aA0 hx12 hl4) ?_)
   refine A4 _ _ ?_
   exact jn ⟨(rest8,k5+1),hd2,h7⟩ [] (by show rest8.length < rest8.length+1; omega)
 rintro ⟨⟨⟩,rfl⟩
 refine A1 _ _ ?_
 refine j6 hn ?_
 refine got hn ?_
 obtain rfl:=Option.some.inj h
 exact ⟨[],_,fm⟩

/- qcref1.SameWorld -/
set_option maxRecDepth 100000 in
set_option maxHeartbeats 8000000 in
theorem aZ3 (N:Nat) (a0:Wd) (a1:Wd) (r:Bool) (h:U8 N a0 a1=some r):Spec Tryd.prog 9 [] [.agg (eWd a0),.agg (eWd a1)] (.bool r) [] []:=by
 refine Spec.of G7 Tryd.func9 rfl Tryd.ntmps9 (by kernel_rfl) rfl rfl rfl fun Γ hn=>?_
 unfold U8 at h
 refine j6 hn ?_
 refine j4.seqQ fun _ A0 _ R0=>?_
 refine j4.seqQ fun _ A1 _ _=>?_
 obtain ⟨o3,h2,h⟩:=j5 h
 refine jk (ι:={ s // o3=s }) hn (fun s=>[(36,.bool s.1)]) (fun s=>[]) [(2,_),(3,_)] [(2,_),(3,_)] (fun _ A2 _ _=>?_) ?_
 ·refine y8 hn ?_
  refine l5 h2 (fun hb4 h2=>?_) (fun hb4 h2=>?_)
  ·refine d9 hb4 ?_
   refine d9 hb4 ?_
   refine d9 hb4 ?_
   refine d9 hb4 ?_
   refine d9 hb4 ?_
   refine d9 hb4 ?_
   refine d9 hb4 ?_
   refine A2 _ _ ?_
   exact jn ⟨_,sj h2⟩ []
  refine j3 hb4 ?_
  refine j3 hb4 ?_
  refine y9 (fun _=>?_)
  refine j3 hb4 ?_
  refine j3 hb4 ?_
  refine j3 hb4 ?_
  refine y9 (fun _=>?_)
  refine j3 hb4 ?_
  refine j3 hb4 ?_
  refine l5 h2 (fun hb7 h2=>?_) (fun hb7 h2=>?_)
  ·refine d9 hb7 ?_
   refine d9 hb7 ?_
   refine d9 hb7 ?_
   refine d9 hb7 ?_
   refine d9 hb7 ?_
   refine d9 hb7 ?_
   refine d9 hb7 ?_
   refine A2 _ _ ?_
   exact jn ⟨_,sj h2⟩ []
  refine j3 hb7 ?_
  refine j3 hb7 ?_
  refine y9 (fun _=>?_)
  refine j3 hb7 ?_
  refine j3 hb7 ?_
  refine j3 hb7 ?_
  refine y9 (fun _=>?_)
  refine j3 hb7 ?_
  refine j3 hb7 ?_
  refine A2 _ _ ?_
  exact jn ⟨_,sj h2⟩ []
 rintro ⟨v1,hv_⟩
 replace hv_:=hv_.symm
 subst hv_
 refine A1 _ _ ?_
 refine l9 hn ?_
 refine l5 h (fun hb10 h=>?_) (fun hb10 h=>?_)
 ·refine j6 hn ?_
  refine got hn ?_
  refine R0 _ _ ?_
  obtain rfl:=Option.some.inj h
  exact ⟨[],_,fm⟩
 refine u7 hn ?_
 refine A0 _ _ ?_
 refine j4.seqQ fun _ A3 _ R3=>?_
 refine j6 hn ?_
 refine y9 (fun hl11=>?_)
 obtain ⟨o13,h14,h⟩:=j5 h
 refine jk (ι:={ s // o13=F7.next s }) hn (fun s=>[]) (fun s=>[]) [(2,_),(3,_)] [(2,_),(3,_)] (fun _ A4 _ R4=>?_) ?_
 ·refine j4.blkQ fun _ _ E5 _ R5=>?_
  refine lq (ι:={ q:((List Cl)×Nat) // q.1=a0.classes.drop q.2∧K9 N a1 q.1 q.2=some o13 }) hn (fun q=>[(40,.int (q.1.2:Int))]) (fun q=>[]) (fun q=>q.1.1.length) [(2,_),(3,_),(38,_),(39,_)] [(2,_),(3,_)] ⟨(a0.classes,0),rfl,h14⟩ [] ?_
  rintro ⟨⟨rest_,k12⟩,hd16,h14⟩ _ A6 X6 R6
  replace hd16:rest_=a0.classes.drop k12:=hd16
  rcases rest_ with _|⟨x18,rest15⟩
  ·have hlt20:=J7 hd16
   replace h14:=(K9.eq_1 _ _ _).symm.trans h14
   refine j6 hn ?_
   refine j4.seqQ fun _ _ X7 _=>?_
   refine l9 hn ?_
   refine j3 hlt20 ?_
   refine K4 hn ?_
   refine X7 _ _ _ ?_
   refine X6 _ _ _ ?_
   refine E5 _ _ ?_
   refine A4 _ _ ?_
   exact jn ⟨_,sj h14⟩ []
  ·obtain ⟨hx19,hd2,hlt20⟩:=D6 hd16
   replace h14:=(K9.eq_2 _ _ _ _ _).symm.trans h14
   refine j6 hn ?_
   refine j4.seqQ fun _ A8 _ _=>?_
   refine l9 hn ?_
   refine d9 hlt20 ?_
   refine u7 hn ?_
   refine A8 _ _ ?_
   refine j4.seqQ fun _ A9 _ R9=>?_
   refine j4.blkQ fun _ A10 _ _ R10=>?_
   refine j6 hn ?_
   refine aA3 hx19 ?_
   refine j6 hn ?_
   obtain ⟨x21,hx22,h14⟩:=j5 h14
   refine aD0 hx22 ?_
   refine j4.seqQ fun _ A11 _ R11=>?_
   refine j4.seqQ fun _ A12 _ _=>?_
   obtain ⟨o25,h24,h14⟩:=j5 h14
   refine jk (ι:={ s // o25=s }) hn (fun s=>[(77,.bool s.1)]) (fun s=>[]) [(2,_),(3,_),(6,_),(7,_),(38,_),(39,_),(40,_)] [(2,_),(3,_),(6,_),(7,_)] (fun _ A13 _ _=>?_) ?_
   ·refine kp [(2,_),(3,_),(6,_),(7,_),(38,_),(39,_),(40,_)] [(2,_),(3,_),(6,_),(7,_)] ?_
    refine y8 hn ?_
    refine l5 h24 (fun hb26 h24=>?_) (fun hb26 h24=>?_)
    ·refine d9 hb26 ?_
     refine d9 hb26 ?_
     refine d9 hb26 ?_
     refine d9 hb26 ?_
     refine d9 hb26 ?_
     refine A13 _ _ ?_
     exact jn ⟨_,sj h24⟩ []
    refine j3 hb26 ?_
    refine j3 hb26 ?_
    refine j3 hb26 ?_
    refine j3 hb26 ?_
    refine j3 hb26 ?_
    refine l5 h24 (fun hb27 h24=>?_) (fun hb27 h24=>?_)
    ·refine d9 hb27 ?_
     refine d9 hb27 ?_
     refine d9 hb27 ?_
     refine d9 hb27 ?_
     refine d9 hb27 ?_
     refine A13 _ _ ?_
     exact jn ⟨_,sj h24⟩ []
    refine j3 hb27 ?_
    refine j3 hb27 ?_
    refine j3 hb27 ?_
    refine j3 hb27 ?_
    refine j3 hb27 ?_
    refine l5 h24 (fun hb28 h24=>?_) (fun hb28 h24=>?_)
    ·refine d9 hb28 ?_
     refine d9 hb28 ?_
     refine d9 hb28 ?_
     refine d9 hb28 ?_
     refine d9 hb28 ?_
     refine d9 hb28 ?_
     refine d9 hb28 ?_
     refine A13 _ _ ?_
     exact jn ⟨_,sj h24⟩ []
    refine j3 hb28 ?_
    refine j3 hb28 ?_
    refine y9 (fun _=>?_)
    refine j3 hb28 ?_
    refine j3 hb28 ?_
    refine j3 hb28 ?_
    refine y9 (fun _=>?_)
    refine j3 hb28 ?_
    refine j3 hb28 ?_
    refine A13 _ _ ?_
    exact jn ⟨_,sj h24⟩ []
   rintro ⟨v23,hv_⟩
   replace hv_:=hv_.symm
   subst hv_
   refine A12 _ _ ?_
   refine l9 hn ?_
   refine l5 h14 (fun hb31 h14=>?_) (fun hb31 h14=>?_)
   ·refine j6 hn ?_
    refine got hn ?_
    refine R11 _ _ ?_
    refine R10 _ _ ?_
    refine R9 _ _ ?_
    refine R6 _ _ ?_
    refine R5 _ _ ?_
    refine R4 _ _ ?_
    refine R3 _ _ ?_
    obtain rfl:=Option.some.inj h14
    obtain rfl:=Option.some.inj h
    exact ⟨[],_,fm⟩
   refine u7 hn ?_
   refine A11 _ _ ?_
   refine j6 hn ?_
   refine y9 (fun hl32=>?_)
   obtain ⟨o34,h35,h14⟩:=j5 h14
   refine jk (ι:={ s // o34=F7.next s }) hn (fun s=>[]) (fun s=>[]) [(2,_),(3,_),(38,_),(39,_),(40,_)] [(2,_),(3,_)] (fun _ A14 _ R14=>?_) ?_
   ·refine j4.blkQ fun _ _ E15 _ R15=>?_
    refine lq (ι:={ q:((List Me)×Nat) // q.1=x18.methods.drop q.2∧M0 N x21 q.1 q.2=some o34 }) hn (fun q=>[(81,.int (q.1.2:Int))]) (fun q=>[]) (fun q=>q.1.1.length) [(2,_),(3,_),(7,_),(38,_),(39,_),(40,_),(79,_),(80,_)] [(2,_),(3,_),(7,_)] ⟨(x18.methods,0),rfl,h35⟩ [] ?_
    rintro ⟨⟨rest_,k33⟩,hd37,h35⟩ _ A16 X16 R16
    replace hd37:rest_=x18.methods.drop k33:=hd37
    rcases rest_ with _|⟨x39,rest36⟩
    ·have hlt41:=J7 hd37
     replace h35:=(M0.eq_1 _ _ _).symm.trans h35
     refine j6 hn ?_
     refine j4.seqQ fun _ _ X17 _=>?_
     refine l9 hn ?_
     refine j3 hlt41 ?_
     refine K4 hn ?_
     refine X17 _ _ _ ?_
     refine X16 _ _ _ ?_
     refine E15 _ _ ?_
     refine A14 _ _ ?_
     exact jn ⟨_,sj h35⟩ []
    ·obtain ⟨hx40,hd2,hlt41⟩:=D6 hd37
     replace h35:=(M0.eq_2 _ _ _ _ _).symm.trans h35
     refine j6 hn ?_
     refine j4.seqQ fun _ A18 _ _=>?_
     refine l9 hn ?_
     refine d9 hlt41 ?_
     refine u7 hn ?_
     refine A18 _ _ ?_
     refine j4.seqQ fun _ A19 _ R19=>?_
     refine j4.blkQ fun _ A20 _ _ R20=>?_
     refine j6 hn ?_
     refine aA3 hx40 ?_
     refine j6 hn ?_
     obtain ⟨x42,hx43,h35⟩:=j5 h35
     refine aD0 hx43 ?_
     refine j4.seqQ fun _ A21 _ _=>?_
     obtain ⟨o46,h45,h35⟩:=j5 h35
     refine jk (ι:={ s // o46=s }) hn (fun s=>[(124,.bool s.1)]) (fun s=>[]) [(2,_),(3,_),(7,_),(38,_),(39,_),(40,_),(79,_),(80,_),(81,_)] [(2,_),(3,_),(7,_)] (fun _ A22 _ _=>?_) ?_
     ·refine kp [(2,_),(3,_),(7,_),(9,_),(10,_),(38,_),(39,_),(40,_),(79,_),(80,_),(81,_)] [(2,_),(3,_),(7,_),(9,_),(10,_)] ?_
      refine y8 hn ?_
      refine l5 h45 (fun hb47 h45=>?_) (fun hb47 h45=>?_)
      ·refine d9 hb47 ?_
       refine d9 hb47 ?_
       refine d9 hb47 ?_
       refine d9 hb47 ?_
       refine d9 hb47 ?_
       refine A22 _ _ ?_
       exact jn ⟨_,sj h45⟩ []
      refine j3 hb47 ?_
      refine j3 hb47 ?_
      refine j3 hb47 ?_
      refine j3 hb47 ?_
      refine j3 hb47 ?_
      refine l5 h45 (fun hb48 h45=>?_) (fun hb48 h45=>?_)
      ·refine d9 hb48 ?_
       refine d9 hb48 ?_
       refine d9 hb48 ?_
       refine d9 hb48 ?_
       refine d9 hb48 ?_
       refine A22 _ _ ?_
       exact jn ⟨_,sj h45⟩ []
      refine j3 hb48 ?_
      refine j3 hb48 ?_
      refine j3 hb48 ?_
      refine j3 hb48 ?_
      refine j3 hb48 ?_
      refine l5 h45 (fun hb49 h45=>?_) (fun hb49 h45=>?_)
      ·refine d9 hb49 ?_
       refine d9 hb49 ?_
       refine d9 hb49 ?_
       refine d9 hb49 ?_
       refine d9 hb49 ?_
       refine A22 _ _ ?_
       exact jn ⟨_,sj h45⟩ []
      refine j3 hb49 ?_
      refine j3 hb49 ?_
      refine j3 hb49 ?_
      refine j3 hb49 ?_
      refine j3 hb49 ?_
      refine l5 h45 (fun hb50 h45=>?_) (fun hb50 h45=>?_)
      ·refine d9 hb50 ?_
       refine d9 hb50 ?_
       refine d9 hb50 ?_
       refine d9 hb50 ?_
       refine d9 hb50 ?_
       refine d9 hb50 ?_
       refine A22 _ _ ?_
       exact jn ⟨_,sj h45⟩ []
      refine j3 hb50 ?_
      refine j3 hb50 ?_
      refine j3 hb50 ?_
      refine j3 hb50 ?_
      obtain ⟨r51,hr52,h45⟩:=j5 h45
      show l7 Tryd.prog _ _ _ _
      refine cA (a03 N x39.code x42.code r51 hr52) ?_
      refine j3 hb50 ?_
      refine j3 hb50 ?_
      refine A22 _ _ ?_
      exact jn ⟨_,sj h45⟩ []
     rintro ⟨v44,hv_⟩
     replace hv_:=hv_.symm
     subst hv_
     refine A21 _ _ ?_
     refine l9 hn ?_
     refine l5 h35 (fun hb53 h35=>?_) (fun hb53 h35=>?_)
     ·refine j6 hn ?_
      refine got hn ?_
      refine R20 _ _ ?_
      refine R19 _ _ ?_
      refine R16 _ _ ?_
      refine R15 _ _ ?_
      refine R14 _ _ ?_
      refine R10 _ _ ?_
      refine R9 _ _ ?_
      refine R6 _ _ ?_
      refine R5 _ _ ?_
      refine R4 _ _ ?_
      refine R3 _ _ ?_
      obtain rfl:=Option.some.inj h35
      obtain rfl:=Option.some.inj h14
      obtain rfl:=Option.some.inj h
      exact ⟨[],_,fm⟩
     refine u7 hn ?_
     refine A20 _ _ ?_
     refine A19 _ _ ?_
     refine y8 hn ?_
     refine Or.inl (And.intro (aA0 hx40 hl32) ?_)
     refine A16 _ _ ?_
     exact jn ⟨(rest36,k33+1),hd2,h35⟩ [] (by show rest36.length < rest36.length+1; omega)
   rintro ⟨⟨⟩,rfl⟩
   refine A10 _ _ ?_
   refine A9 _ _ ?_
   refine y8 hn ?_
   refine Or.inl (And.intro (aA0 hx19 hl11) ?_)
   refine A6 _ _ ?_
   exact jn ⟨(rest15,k12+1),hd2,h14⟩ [] (by show rest15.length < rest15.length+1; omega)
 rintro ⟨⟨⟩,rfl⟩
 refine A3 _ _ ?_
 refine j4.seqQ fun _ A23 _ R23=>?_
 refine j6 hn ?_
 refine y9 (fun hl54=>?_)
 obtain ⟨o56,h57,h⟩:=j5 h
 refine jk (ι:={ s // o56=F7.next s }) hn (fun s=>[]) (fun s=>[]) [] [] (fun _ A24 _ R24=>?_) ?_
 ·refine j4.blkQ fun _ _ E25 _ R25=>?_
  refine lq (ι:={ q:((List Ob)×Nat) // q.1=a0.heap.drop q.2∧L9 N a1 q.1 q.2=some o56 }) hn (fun q=>[(130,.int (q.1.2:Int))]) (fun q=>[]) (fun q=>q.1.1.length) [(3,_),(128,_),(129,_)] [(3,_)] ⟨(a0.heap,0),rfl,h57⟩ [] ?_
  rintro ⟨⟨rest_,k55⟩,hd59,h57⟩ _ A26 X26 R26
  replace hd59:rest_=a0.heap.drop k55:=hd59
  rcases rest_ with _|⟨x61,rest58⟩
  ·have hlt63:=J7 hd59
   replace h57:=(L9.eq_1 _ _ _).symm.trans h57
   refine j6 hn ?_
   refine j4.seqQ fun _ _ X27 _=>?_
   refine l9 hn ?_
   refine j3 hlt63 ?_
   refine K4 hn ?_
   refine X27 _ _ _ ?_
   refine X26 _ _ _ ?_
   refine E25 _ _ ?_
   refine A24 _ _ ?_
   exact jn ⟨_,sj h57⟩ []
  ·obtain ⟨hx62,hd2,hlt63⟩:=D6 hd59
   replace h57:=(L9.eq_2 _ _ _ _ _).symm.trans h57
   refine j6 hn ?_
   refine j4.seqQ fun _ A28 _ _=>?_
   refine l9 hn ?_
   refine d9 hlt63 ?_
   refine u7 hn ?_
   refine A28 _ _ ?_
   refine j4.seqQ fun _ A29 _ R29=>?_
   refine j4.blkQ fun _ A30 _ _ R30=>?_
   refine j6 hn ?_
   refine aA3 hx62 ?_
   refine j4.seqQ fun _ A31 _ R31=>?_
   refine j4.seqQ fun _ A32 _ _=>?_
   obtain ⟨o66,h65,h57⟩:=j5 h57
   refine jk (ι:={ s // o66=s }) hn (fun s=>[(156,.bool s.1)]) (fun s=>[]) [(3,_),(11,_),(12,_),(128,_),(129,_),(130,_)] [(3,_),(12,_)] (fun _ A33 _ _=>?_) ?_
   ·refine kp [(3,_),(11,_),(12,_),(128,_),(129,_),(130,_)] [(3,_),(12,_)] ?_
    refine god hn (by kernel_rfl) ?_
    obtain ⟨x67,hx68,h65⟩:=j5 h65
    refine aD0 hx68 ?_
    refine l5 h65 (fun hb69 h65=>?_) (fun hb69 h65=>?_)
    ·refine d9 hb69 ?_
     refine d9 hb69 ?_
     refine d9 hb69 ?_
     refine d9 hb69 ?_
     refine d9 hb69 ?_
     refine d9 hb69 ?_
     refine d9 hb69 ?_
     refine d9 hb69 ?_
     refine d9 hb69 ?_
     refine d9 hb69 ?_
     refine d9 hb69 ?_
     refine A33 _ _ ?_
     exact jn ⟨_,sj h65⟩ []
    refine j3 hb69 ?_
    refine j3 hb69 ?_
    refine y9 (fun _=>?_)
    refine j3 hb69 ?_
    refine j3 hb69 ?_
    refine j3 hb69 ?_
    refine j3 hb69 ?_
    obtain ⟨x71,hx72,h65⟩:=j5 h65
    refine aD0 hx72 ?_
    refine j3 hb69 ?_
    refine j3 hb69 ?_
    refine j3 hb69 ?_
    refine y9 (fun _=>?_)
    refine j3 hb69 ?_
    refine j3 hb69 ?_
    refine A33 _ _ ?_
    exact jn ⟨_,sj h65⟩ []
   rintro ⟨v64,hv_⟩
   replace hv_:=hv_.symm
   subst hv_
   refine A32 _ _ ?_
   refine l9 hn ?_
   refine l5 h57 (fun hb74 h57=>?_) (fun hb74 h57=>?_)
   ·refine j6 hn ?_
    refine got hn ?_
    refine R31 _ _ ?_
    refine R30 _ _ ?_
    refine R29 _ _ ?_
    refine R26 _ _ ?_
    refine R25 _ _ ?_
    refine R24 _ _ ?_
    refine R23 _ _ ?_
    obtain rfl:=Option.some.inj h57
    obtain rfl:=Option.some.inj h
    exact ⟨[],_,fm⟩
   refine u7 hn ?_
   refine A31 _ _ ?_
   refine j6 hn ?_
   refine y9 (fun hl75=>?_)
   obtain ⟨o77,h78,h57⟩:=j5 h57
   refine jk (ι:={ s // o77=F7.next s }) hn (fun s=>[]) (fun s=>[]) [(3,_),(128,_),(129,_),(130,_)] [(3,_)] (fun _ A34 _ R34=>?_) ?_
   ·refine j4.blkQ fun _ _ E35 _ R35=>?_
    refine lq (ι:={ q:((List V)×Nat) // q.1=x61.slots.drop q.2∧L6 N a1 k55 q.1 q.2=some o77 }) hn (fun q=>[(160,.int (q.1.2:Int))]) (fun q=>[]) (fun q=>q.1.1.length) [(3,_),(11,_),(12,_),(128,_),(129,_),(130,_),(159,_)] [(3,_),(12,_)] ⟨(x61.slots,0),rfl,h78⟩ [] ?_
    rintro ⟨⟨rest_,k76⟩,hd80,h78⟩ _ A36 X36 R36
    replace hd80:rest_=x61.slots.drop k76:=hd80
    rcases rest_ with _|⟨x82,rest79⟩
    ·have hlt84:=J7 hd80
     replace h78:=(L6.eq_1 _ _ _ _).symm.trans h78
     refine j6 hn ?_
     refine j4.seqQ fun _ _ X37 _=>?_
     refine l9 hn ?_
     refine j3 hlt84 ?_
     refine K4 hn ?_
     refine X37 _ _ _ ?_
     refine X36 _ _ _ ?_
     refine E35 _ _ ?_
     refine A34 _ _ ?_
     exact jn ⟨_,sj h78⟩ []
    ·obtain ⟨hx83,hd2,hlt84⟩:=D6 hd80
     replace h78:=(L6.eq_2 _ _ _ _ _ _).symm.trans h78
     refine j6 hn ?_
     refine j4.seqQ fun _ A38 _ _=>?_
     refine l9 hn ?_
     refine d9 hlt84 ?_
     refine u7 hn ?_
     refine A38 _ _ ?_
     refine j4.seqQ fun _ A39 _ R39=>?_
     refine j4.blkQ fun _ A40 _ _ R40=>?_
     refine j6 hn ?_
     refine j4.seqQ fun _ A41 _ _=>?_
     refine god hn (by kernel_rfl) ?_
     refine aA3 hx83 ?_
     obtain ⟨x85,hx86,h78⟩:=j5 h78
     refine aD0 hx86 ?_
     obtain ⟨x87,hx88,h78⟩:=j5 h78
     refine aD0 hx88 ?_
     refine A41 _ _ ?_
     refine l9 hn ?_
     refine l5 h78 (fun hb89 h78=>?_) (fun hb89 h78=>?_)
     ·refine kp [] [] ?_
      refine j6 hn ?_
      refine got hn ?_
      refine R40 _ _ ?_
      refine R39 _ _ ?_
      refine R36 _ _ ?_
      refine R35 _ _ ?_
      refine R34 _ _ ?_
      refine R30 _ _ ?_
      refine R29 _ _ ?_
      refine R26 _ _ ?_
      refine R25 _ _ ?_
      refine R24 _ _ ?_
      refine R23 _ _ ?_
      obtain rfl:=Option.some.inj h78
      obtain rfl:=Option.some.inj h57
      obtain rfl:=Option.some.inj h
      exact ⟨[],_,fm⟩
     refine u7 hn ?_
     refine A40 _ _ ?_
     refine A39 _ _ ?_
     refine kp [(3,_),(11,_),(12,_),(128,_),(129,_),(130,_),(159,_),(160,_)] [(3,_),(12,_)] ?_
     refine y8 hn ?_
     refine Or.inl (And.intro (aA0 hx83 hl75) ?_)
     refine A36 _ _ ?_
     exact jn ⟨(rest79,k76+1),hd2,h78⟩ [] (by show rest79.length < rest79.length+1; omega)
   rintro ⟨⟨⟩,rfl⟩
   refine A30 _ _ ?_
   refine A29 _ _ ?_
   refine y8 hn ?_
   refine Or.inl (And.intro (aA0 hx62 hl54) ?_)
   refine A26 _ _ ?_
   exact jn ⟨(rest58,k55+1),hd2,h57⟩ [] (by show rest58.length < rest58.length+1; omega)
 rintro ⟨⟨⟩,rfl⟩
 refine A23 _ _ ?_
 refine j6 hn ?_
 refine got hn ?_
 obtain rfl:=Option.some.inj h
 exact ⟨[],_,fm⟩

/- qclaw4.WireTurns -/
set_option maxRecDepth 100000 in
set_option maxHeartbeats 8000000 in
theorem aZ1 (N:Nat) (a0:Wd) (a1:(List Int)) (r:Bool) (h:aD2 N a0 a1=some r):Spec Tryd.prog 3 [(2000,GL)] [.agg (eWd a0),.sl 1 (List.map (eIk .u8) a1)] (.bool r) [(2000,GL)] []:=by
 refine Spec.of G7 Tryd.func3 rfl Tryd.ntmps3 (by kernel_rfl) rfl rfl rfl fun Γ hn=>?_
 unfold aD2 at h
 refine j6 hn ?_
 refine j4.seqQ fun _ A0 _ R0=>?_
 refine j6 hn ?_
 obtain ⟨r1,hr2,h⟩:=j5 h
 show l7 Tryd.prog _ _ _ _
 refine cA (bG3 N  r1 hr2) ?_
 refine l9 hn ?_
 refine l5 h (fun hb3 h=>?_) (fun hb3 h=>?_)
 ·refine j6 hn ?_
  refine got hn ?_
  refine R0 _ _ ?_
  obtain rfl:=Option.some.inj h
  exact ⟨[],_,fm⟩
 refine u7 hn ?_
 refine A0 _ _ ?_
 refine j4.seqQ fun _ A1 _ R1=>?_
 refine j6 hn ?_
 obtain ⟨r4,hr5,h⟩:=j5 h
 show l7 Tryd.prog _ _ _ _
 refine cA (aD9 N a0 r4 hr5) ?_
 obtain ⟨o7,h6,h⟩:=j5 h
 refine jk (ι:={ s // o7=F7.next s }) hn (fun s=>[]) (fun s=>[]) [(1,_)] [(2000,_)] (fun _ A2 _ R2=>?_) ?_
 ·refine l9 hn ?_
  refine l5 h6 (fun hb8 h6=>?_) (fun hb8 h6=>?_)
  ·refine j6 hn ?_
   obtain ⟨r9,hr10,h6⟩:=j5 h6
   show l7 Tryd.prog _ _ _ _
   refine cA (aM9 N a0 r9 hr10) ?_
   obtain ⟨r11,hr12,h6⟩:=j5 h6
   show l7 Tryd.prog _ _ _ _
   refine cA (aN1 N r9 r11 hr12) ?_
   refine j4.seqQ fun _ A3 _ _=>?_
   obtain ⟨o15,h14,h6⟩:=j5 h6
   refine jk (ι:={ s // o15=s }) hn (fun s=>[(27,.bool s.1)]) (fun s=>[]) [(1,_)] [(2000,_)] (fun _ A4 _ _=>?_) ?_
   ·refine kp [(1,_),(2,_),(5,_),(6,_)] [(2,_),(5,_),(2000,_)] ?_
    refine y8 hn ?_
    refine l5 h14 (fun hb16 h14=>?_) (fun hb16 h14=>?_)
    ·refine d9 hb16 ?_
     refine d9 hb16 ?_
     refine d9 hb16 ?_
     refine d9 hb16 ?_
     refine A4 _ _ ?_
     exact jn ⟨_,sj h14⟩ []
    refine j3 hb16 ?_
    refine j3 hb16 ?_
    obtain ⟨r17,hr18,h14⟩:=j5 h14
    show l7 Tryd.prog _ _ _ _
    refine cA (aZ3 N r11.1 a0 r17 hr18) ?_
    refine j3 hb16 ?_
    refine j3 hb16 ?_
    refine A4 _ _ ?_
    exact jn ⟨_,sj h14⟩ []
   rintro ⟨v13,hv_⟩
   replace hv_:=hv_.symm
   subst hv_
   refine A3 _ _ ?_
   refine l9 hn ?_
   refine l5 h6 (fun hb19 h6=>?_) (fun hb19 h6=>?_)
   ·refine j6 hn ?_
    refine got hn ?_
    refine R2 _ _ ?_
    refine R1 _ _ ?_
    obtain rfl:=Option.some.inj h6
    obtain rfl:=Option.some.inj h
    exact ⟨[],_,fm⟩
   refine u7 hn ?_
   refine A2 _ _ ?_
   exact jn ⟨_,sj h6⟩ []
  refine u7 hn ?_
  refine A2 _ _ ?_
  exact jn ⟨_,sj h6⟩ []
 rintro ⟨⟨⟩,rfl⟩
 refine A1 _ _ ?_
 refine j6 hn ?_
 obtain ⟨r20,hr21,h⟩:=j5 h
 show l7 Tryd.prog _ _ _ _
 refine cA (aN1 N a1 r20 hr21) ?_
 refine j4.seqQ fun _ A5 _ R5=>?_
 refine j6 hn ?_
 refine l9 hn ?_
 refine l5 h (fun hb22 h=>?_) (fun hb22 h=>?_)
 ·refine j6 hn ?_
  refine y9 (fun _=>?_)
  refine got hn ?_
  refine R5 _ _ ?_
  obtain rfl:=Option.some.inj h
  exact ⟨[],_,fm⟩
 refine u7 hn ?_
 refine A5 _ _ ?_
 refine j4.seqQ fun _ A6 _ _=>?_
 obtain ⟨o26,h25,h⟩:=j5 h
 refine jk (ι:={ s // o26=s }) hn (fun s=>[(4,.bool s.1)]) (fun s=>[]) [] [(2000,_)] (fun _ A7 _ _=>?_) ?_
 ·refine god hn (by kernel_rfl) ?_
  obtain ⟨r27,hr28,h25⟩:=j5 h25
  show l7 Tryd.prog _ _ _ _
  refine cA (aD9 N r20.1 r27 hr28) ?_
  refine l5 h25 (fun hb29 h25=>?_) (fun hb29 h25=>?_)
  ·refine d9 hb29 ?_
   obtain ⟨r30,hr31,h25⟩:=j5 h25
   show l7 Tryd.prog _ _ _ _
   refine cA (aM9 N r20.1 r30 hr31) ?_
   refine d9 hb29 ?_
   refine Exists.intro r30 (And.intro rfl ?_)
   refine d9 hb29 ?_
   refine d9 hb29 ?_
   refine Exists.intro a1 (And.intro rfl ?_)
   refine d9 hb29 ?_
   refine d9 hb29 ?_
   refine A7 _ _ ?_
   exact jn ⟨_,sj h25⟩ []
  refine j3 hb29 ?_
  refine j3 hb29 ?_
  refine j3 hb29 ?_
  refine j3 hb29 ?_
  refine j3 hb29 ?_
  refine j3 hb29 ?_
  refine A7 _ _ ?_
  exact jn ⟨_,sj h25⟩ []
 rintro ⟨v24,hv_⟩
 replace hv_:=hv_.symm
 subst hv_
 refine A6 _ _ ?_
 refine got hn ?_
 obtain rfl:=Option.some.inj h
 exact ⟨[],_,fm⟩
end Go.Proofs.YtibjcppjfkamhaaDoor
