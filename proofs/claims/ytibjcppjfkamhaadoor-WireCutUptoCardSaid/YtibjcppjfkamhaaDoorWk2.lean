/- Walks after the mirrors. Printed by mir.py. -/
import Derived.Test.YtibjcppjfkamhaaDoorWk1
namespace Go.Proofs.YtibjcppjfkamhaaDoor
open Go.RowKit
set_option linter.unusedVariables false
/- qcref1.Text$1 -/
set_option maxRecDepth 100000 in
set_option maxHeartbeats 8000000 in
theorem O1 (N:Nat) (a0:(List Int)) (b0:ByteArray) (r:ByteArray) (h:I5 N a0 b0=some r):Spec Tryd.prog 24 [(1016,.box [.str b0] 9),(2000,GL)] [.sl 1 (List.map U0 a0),.ptr 1016 0] (.tup []) [(1016,.box [.str r] 9),(2000,GL)] []:=by
 refine Spec.of G9 Tryd.func24 rfl Tryd.ntmps24 (by kernel_rfl) rfl rfl rfl fun Γ hn=>?_
 unfold I5 at h
 refine j4.snoc ?_
 refine j6 hn ?_
 refine C8 (fun hl1=>?_)
 obtain ⟨o6,h7,h⟩:=j5 h
 refine jk (ι:={ s // o6=s }) hn (fun s=>[]) (fun s=>[(1016,.box [.str s.1] 9)]) [(1,_)] [(2000,_)] (fun _ A0 _ _=>?_) ?_
 ·refine j4.blkQ fun _ _ E1 _ _=>?_
  refine lq (ι:={ q:((List Int)×Nat×ByteArray) // q.1=a0.drop q.2.1∧J8 N q.1 q.2.1 q.2.2=some o6 }) hn (fun q=>[(7,.int (q.1.2.1:Int))]) (fun q=>[(1016,.box [.str q.1.2.2] 9)]) (fun q=>q.1.1.length) [(1,_),(5,_),(6,_)] [(2000,_)] ⟨(a0,0,b0),rfl,h7⟩ [] ?_
  rintro ⟨⟨rest_,k2,v3⟩,hd9,h7⟩ _ A2 X2 _
  replace hd9:rest_=a0.drop k2:=hd9
  rcases rest_ with _|⟨x11,rest8⟩
  ·have hlt13:=N8 hd9
   replace h7:=(J8.eq_1 _ _ _).symm.trans h7
   refine j6 hn ?_
   refine j4.seqQ fun _ _ X3 _=>?_
   refine q8 hn ?_
   refine j3 hlt13 ?_
   refine K9 hn ?_
   refine X3 _ _ _ ?_
   refine X2 _ _ _ ?_
   refine E1 _ _ ?_
   refine A0 _ _ ?_
   exact jn ⟨_,sj h7⟩ []
  ·obtain ⟨hx12,hd2,hlt13⟩:=F8 hd9
   replace h7:=(J8.eq_2 _ _ _ _ _).symm.trans h7
   refine j6 hn ?_
   refine j4.seqQ fun _ A4 _ _=>?_
   refine q8 hn ?_
   refine d9 hlt13 ?_
   refine y5 hn ?_
   refine A4 _ _ ?_
   refine j4.seqQ fun _ A5 _ _=>?_
   refine j4.blkQ fun _ A6 _ _ _=>?_
   refine j6 hn ?_
   refine aC9 hx12 ?_
   refine god hn (by kernel_rfl) ?_
   obtain ⟨r14,hr15,h7⟩:=j5 h7
   show l7 Tryd.prog _ _ _ _
   refine cA (aH1 N x11 r14 hr15) ?_
   obtain ⟨hg16,h7⟩:=J7 h7
   refine aR3 hg16 ?_
   obtain ⟨hg17,h7⟩:=J7 h7
   refine aR3 hg17 ?_
   refine A6 _ _ ?_
   refine A5 _ _ ?_
   refine y7 hn ?_
   refine Or.inl (And.intro (aD0 hx12 hl1) ?_)
   refine A2 _ _ ?_
   exact jn ⟨(rest8,k2+1,((v3++r14)++(⟨#[32]⟩:ByteArray))),hd2,h7⟩ [] (by show rest8.length < rest8.length+1; omega)
 rintro ⟨v5,hv_⟩
 replace hv_:=hv_.symm
 subst hv_
 refine P7.done ?_
 obtain rfl:=Option.some.inj h
 exact ⟨[],_,fm⟩

/- qcref1.Text -/
set_option maxRecDepth 100000 in
set_option maxHeartbeats 8000000 in
theorem bG5 (N:Nat) (a0:Wd) (r:ByteArray) (h:aF2 N a0=some r):Spec Tryd.prog 11 [(2000,GL)] [.agg (eWd a0)] (.str r) [(2000,GL)] []:=by
 refine Spec.of G9 Tryd.func11 rfl Tryd.ntmps11 (by kernel_rfl) rfl rfl rfl fun Γ hn=>?_
 unfold aF2 at h
 refine j6 hn ?_
 refine j6 hn ?_
 refine j6 hn ?_
 refine j6 hn ?_
 refine C8 (fun _=>?_)
 refine Exists.intro (List.map U0 [a0.epoch,(a0.classes.length:Int)]) (And.intro (by repeat (first|exact trivial|exact rfl|(refine And.intro ?_ ?_))) ?_)
 obtain ⟨r2,hr3,h⟩:=j5 h
 show l7 Tryd.prog _ _ _ _
 refine cF ((O1 N [a0.epoch,(a0.classes.length:Int)] (⟨#[]⟩:ByteArray) r2 hr3).sw 1016 3) ?_
 refine j4.seqQ fun _ A0 _ _=>?_
 refine j6 hn ?_
 refine C8 (fun hl4=>?_)
 obtain ⟨o9,h10,h⟩:=j5 h
 refine jk (ι:={ s // o9=s }) hn (fun s=>[]) (fun s=>[(3,.box [.str s.1] 9)]) [(1,_),(3,_),(4,_)] [(1,_),(2000,_)] (fun _ A1 _ _=>?_) ?_
 ·refine j4.blkQ fun _ _ E2 _ _=>?_
  refine lq (ι:={ q:((List Cl)×Nat×ByteArray) // q.1=a0.classes.drop q.2.1∧M4 N q.1 q.2.1 q.2.2=some o9 }) hn (fun q=>[(27,.int (q.1.2.1:Int))]) (fun q=>[(3,.box [.str q.1.2.2] 9)]) (fun q=>q.1.1.length) [(1,_),(3,_),(4,_),(25,_),(26,_)] [(1,_),(2000,_)] ⟨(a0.classes,0,r2),rfl,h10⟩ [] ?_
  rintro ⟨⟨rest_,k5,v6⟩,hd12,h10⟩ _ A3 X3 _
  replace hd12:rest_=a0.classes.drop k5:=hd12
  rcases rest_ with _|⟨x14,rest11⟩
  ·have hlt16:=N8 hd12
   replace h10:=(M4.eq_1 _ _ _).symm.trans h10
   refine j6 hn ?_
   refine j4.seqQ fun _ _ X4 _=>?_
   refine q8 hn ?_
   refine j3 hlt16 ?_
   refine K9 hn ?_
   refine X4 _ _ _ ?_
   refine X3 _ _ _ ?_
   refine E2 _ _ ?_
   refine A1 _ _ ?_
   exact jn ⟨_,sj h10⟩ []
  ·obtain ⟨hx15,hd2,hlt16⟩:=F8 hd12
   replace h10:=(M4.eq_2 _ _ _ _ _).symm.trans h10
   refine j6 hn ?_
   refine j4.seqQ fun _ A5 _ _=>?_
   refine q8 hn ?_
   refine d9 hlt16 ?_
   refine y5 hn ?_
   refine A5 _ _ ?_
   refine j4.seqQ fun _ A6 _ _=>?_
   refine j4.blkQ fun _ A7 _ _ _=>?_
   refine j6 hn ?_
   refine aC9 hx15 ?_
   refine j6 hn ?_
   obtain ⟨hg17,h10⟩:=J7 h10
   refine aR3 hg17 ?_
   obtain ⟨hg18,h10⟩:=J7 h10
   refine aR3 hg18 ?_
   refine j6 hn ?_
   refine C8 (fun _=>?_)
   refine Exists.intro (List.map U0 [x14.super,x14.slots,(x14.methods.length:Int)]) (And.intro (by repeat (first|exact trivial|exact rfl|(refine And.intro ?_ ?_))) ?_)
   obtain ⟨r20,hr21,h10⟩:=j5 h10
   show l7 Tryd.prog _ _ _ _
   refine cF ((O1 N [x14.super,x14.slots,(x14.methods.length:Int)] ((v6++x14.name)++(⟨#[32]⟩:ByteArray)) r20 hr21).sw 1016 3) ?_
   refine kp [(1,_),(3,_),(4,_),(6,_),(25,_),(26,_),(27,_)] [(1,_),(3,_),(6,_),(2000,_)] ?_
   refine j6 hn ?_
   refine C8 (fun hl22=>?_)
   obtain ⟨o27,h28,h10⟩:=j5 h10
   refine jk (ι:={ s // o27=s }) hn (fun s=>[]) (fun s=>[(3,.box [.str s.1] 9)]) [(1,_),(3,_),(4,_),(25,_),(26,_),(27,_)] [(1,_),(2000,_)] (fun _ A8 _ _=>?_) ?_
   ·refine j4.blkQ fun _ _ E9 _ _=>?_
    refine lq (ι:={ q:((List Me)×Nat×ByteArray) // q.1=x14.methods.drop q.2.1∧K4 N q.1 q.2.1 q.2.2=some o27 }) hn (fun q=>[(49,.int (q.1.2.1:Int))]) (fun q=>[(3,.box [.str q.1.2.2] 9)]) (fun q=>q.1.1.length) [(1,_),(3,_),(4,_),(25,_),(26,_),(27,_),(47,_),(48,_)] [(1,_),(2000,_)] ⟨(x14.methods,0,r20),rfl,h28⟩ [] ?_
    rintro ⟨⟨rest_,k23,v24⟩,hd30,h28⟩ _ A10 X10 _
    replace hd30:rest_=x14.methods.drop k23:=hd30
    rcases rest_ with _|⟨x32,rest29⟩
    ·have hlt34:=N8 hd30
     replace h28:=(K4.eq_1 _ _ _).symm.trans h28
     refine j6 hn ?_
     refine j4.seqQ fun _ _ X11 _=>?_
     refine q8 hn ?_
     refine j3 hlt34 ?_
     refine K9 hn ?_
     refine X11 _ _ _ ?_
     refine X10 _ _ _ ?_
     refine E9 _ _ ?_
     refine A8 _ _ ?_
     exact jn ⟨_,sj h28⟩ []
    ·obtain ⟨hx33,hd2,hlt34⟩:=F8 hd30
     replace h28:=(K4.eq_2 _ _ _ _ _).symm.trans h28
     refine j6 hn ?_
     refine j4.seqQ fun _ A12 _ _=>?_
     refine q8 hn ?_
     refine d9 hlt34 ?_
     refine y5 hn ?_
     refine A12 _ _ ?_
     refine j4.seqQ fun _ A13 _ _=>?_
     refine j4.blkQ fun _ A14 _ _ _=>?_
     refine j6 hn ?_
     refine aC9 hx33 ?_
     refine j6 hn ?_
     obtain ⟨hg35,h28⟩:=J7 h28
     refine aR3 hg35 ?_
     obtain ⟨hg36,h28⟩:=J7 h28
     refine aR3 hg36 ?_
     refine kp [(1,_),(3,_),(4,_),(8,_),(25,_),(26,_),(27,_),(47,_),(48,_),(49,_)] [(1,_),(3,_),(8,_),(2000,_)] ?_
     refine j6 hn ?_
     refine C8 (fun _=>?_)
     refine Exists.intro (List.map U0 [x32.args,x32.temps,x32.prim,(x32.code.length:Int)]) (And.intro (by repeat (first|exact trivial|exact rfl|(refine And.intro ?_ ?_))) ?_)
     obtain ⟨r38,hr39,h28⟩:=j5 h28
     show l7 Tryd.prog _ _ _ _
     refine cF ((O1 N [x32.args,x32.temps,x32.prim,(x32.code.length:Int)] ((v24++x32.name)++(⟨#[32]⟩:ByteArray)) r38 hr39).sw 1016 3) ?_
     refine kp [(1,_),(3,_),(4,_),(8,_),(25,_),(26,_),(27,_),(47,_),(48,_),(49,_)] [(1,_),(3,_),(8,_),(2000,_)] ?_
     refine j6 hn ?_
     refine C8 (fun hl40=>?_)
     obtain ⟨o45,h46,h28⟩:=j5 h28
     refine jk (ι:={ s // o45=s }) hn (fun s=>[]) (fun s=>[(3,.box [.str s.1] 9)]) [(1,_),(3,_),(4,_),(25,_),(26,_),(27,_),(47,_),(48,_),(49,_)] [(1,_),(2000,_)] (fun _ A15 _ _=>?_) ?_
     ·refine j4.blkQ fun _ _ E16 _ _=>?_
      refine lq (ι:={ q:((List Ins)×Nat×ByteArray) // q.1=x32.code.drop q.2.1∧M3 N q.1 q.2.1 q.2.2=some o45 }) hn (fun q=>[(73,.int (q.1.2.1:Int))]) (fun q=>[(3,.box [.str q.1.2.2] 9)]) (fun q=>q.1.1.length) [(1,_),(3,_),(4,_),(25,_),(26,_),(27,_),(47,_),(48,_),(49,_),(71,_),(72,_)] [(1,_),(2000,_)] ⟨(x32.code,0,r38),rfl,h46⟩ [] ?_
      rintro ⟨⟨rest_,k41,v42⟩,hd48,h46⟩ _ A17 X17 _
      replace hd48:rest_=x32.code.drop k41:=hd48
      rcases rest_ with _|⟨x50,rest47⟩
      ·have hlt52:=N8 hd48
       replace h46:=(M3.eq_1 _ _ _).symm.trans h46
       refine j6 hn ?_
       refine j4.seqQ fun _ _ X18 _=>?_
       refine q8 hn ?_
       refine j3 hlt52 ?_
       refine K9 hn ?_
       refine X18 _ _ _ ?_
       refine X17 _ _ _ ?_
       refine E16 _ _ ?_
       refine A15 _ _ ?_
       exact jn ⟨_,sj h46⟩ []
      ·obtain ⟨hx51,hd2,hlt52⟩:=F8 hd48
       replace h46:=(M3.eq_2 _ _ _ _ _).symm.trans h46
       refine j6 hn ?_
       refine j4.seqQ fun _ A19 _ _=>?_
       refine q8 hn ?_
       refine d9 hlt52 ?_
       refine y5 hn ?_
       refine A19 _ _ ?_
       refine j4.seqQ fun _ A20 _ _=>?_
       obtain ⟨o55,h54,h46⟩:=j5 h46
       refine jk (ι:={ s // o55=s }) hn (fun s=>[]) (fun s=>[(3,.box [.str s.1] 9)]) [(1,_),(3,_),(4,_),(25,_),(26,_),(27,_),(47,_),(48,_),(49,_),(71,_),(72,_),(73,_)] [(1,_),(2000,_)] (fun _ A21 _ _=>?_) ?_
       ·refine j4.blkQ fun _ A22 _ _ _=>?_
        refine j6 hn ?_
        refine aC9 hx51 ?_
        refine j6 hn ?_
        refine Exists.intro (List.map U0 [x50.op,x50.a]) (And.intro (by repeat (first|exact trivial|exact rfl|(refine And.intro ?_ ?_))) ?_)
        obtain ⟨r56,hr57,h54⟩:=j5 h54
        show l7 Tryd.prog _ _ _ _
        refine cF ((O1 N [x50.op,x50.a] v42 r56 hr57).sw 1016 3) ?_
        refine kp [(1,_),(3,_),(4,_),(10,_),(25,_),(26,_),(27,_),(47,_),(48,_),(49,_),(71,_),(72,_),(73,_)] [(1,_),(3,_),(10,_),(2000,_)] ?_
        refine j6 hn ?_
        obtain ⟨o60,h59,h54⟩:=j5 h54
        refine jk (ι:={ s // o60=s }) hn (fun s=>[]) (fun s=>[(3,.box [.str s.1] 9)]) [(1,_),(3,_),(4,_),(25,_),(26,_),(27,_),(47,_),(48,_),(49,_),(71,_),(72,_),(73,_)] [(1,_),(2000,_)] (fun _ A23 _ _=>?_) ?_
        ·refine q8 hn ?_
         refine l5 h59 (fun hb61 h59=>?_) (fun hb61 h59=>?_)
         ·refine y7 hn ?_
          obtain ⟨hg62,h59⟩:=J7 h59
          refine aR3 hg62 ?_
          obtain ⟨hg63,h59⟩:=J7 h59
          refine aR3 hg63 ?_
          refine A23 _ _ ?_
          exact jn ⟨_,sj h59⟩ []
         refine y5 hn ?_
         refine A23 _ _ ?_
         exact jn ⟨_,sj h59⟩ []
        rintro ⟨v58,hv_⟩
        replace hv_:=hv_.symm
        subst hv_
        refine A22 _ _ ?_
        refine A21 _ _ ?_
        exact jn ⟨_,sj h54⟩ []
       rintro ⟨v53,hv_⟩
       replace hv_:=hv_.symm
       subst hv_
       refine A20 _ _ ?_
       refine y7 hn ?_
       refine Or.inl (And.intro (aD0 hx51 hl40) ?_)
       refine A17 _ _ ?_
       exact jn ⟨(rest47,k41+1,v53),hd2,h46⟩ [] (by show rest47.length < rest47.length+1; omega)
     rintro ⟨v44,hv_⟩
     replace hv_:=hv_.symm
     subst hv_
     refine A14 _ _ ?_
     refine A13 _ _ ?_
     refine y7 hn ?_
     refine Or.inl (And.intro (aD0 hx33 hl22) ?_)
     refine A10 _ _ ?_
     exact jn ⟨(rest29,k23+1,v44),hd2,h28⟩ [] (by show rest29.length < rest29.length+1; omega)
   rintro ⟨v26,hv_⟩
   replace hv_:=hv_.symm
   subst hv_
   refine A7 _ _ ?_
   refine A6 _ _ ?_
   refine y7 hn ?_
   refine Or.inl (And.intro (aD0 hx15 hl4) ?_)
   refine A3 _ _ ?_
   exact jn ⟨(rest11,k5+1,v26),hd2,h10⟩ [] (by show rest11.length < rest11.length+1; omega)
 rintro ⟨v8,hv_⟩
 replace hv_:=hv_.symm
 subst hv_
 refine A0 _ _ ?_
 refine j6 hn ?_
 refine C8 (fun _=>?_)
 refine Exists.intro (List.map U0 [(a0.heap.length:Int)]) (And.intro (by repeat (first|exact trivial|exact rfl|(refine And.intro ?_ ?_))) ?_)
 obtain ⟨r65,hr66,h⟩:=j5 h
 show l7 Tryd.prog _ _ _ _
 refine cF ((O1 N [(a0.heap.length:Int)] v8 r65 hr66).sw 1016 3) ?_
 refine j4.seqQ fun _ A24 _ _=>?_
 refine j6 hn ?_
 refine C8 (fun hl67=>?_)
 obtain ⟨o72,h73,h⟩:=j5 h
 refine jk (ι:={ s // o72=s }) hn (fun s=>[]) (fun s=>[(3,.box [.str s.1] 9)]) [(3,_)] [(2000,_)] (fun _ A25 _ _=>?_) ?_
 ·refine j4.blkQ fun _ _ E26 _ _=>?_
  refine lq (ι:={ q:((List Ob)×Nat×ByteArray) // q.1=a0.heap.drop q.2.1∧O5 N q.1 q.2.1 q.2.2=some o72 }) hn (fun q=>[(104,.int (q.1.2.1:Int))]) (fun q=>[(3,.box [.str q.1.2.2] 9)]) (fun q=>q.1.1.length) [(3,_),(4,_),(102,_),(103,_)] [(2000,_)] ⟨(a0.heap,0,r65),rfl,h73⟩ [] ?_
  rintro ⟨⟨rest_,k68,v69⟩,hd75,h73⟩ _ A27 X27 _
  replace hd75:rest_=a0.heap.drop k68:=hd75
  rcases rest_ with _|⟨x77,rest74⟩
  ·have hlt79:=N8 hd75
   replace h73:=(O5.eq_1 _ _ _).symm.trans h73
   refine j6 hn ?_
   refine j4.seqQ fun _ _ X28 _=>?_
   refine q8 hn ?_
   refine j3 hlt79 ?_
   refine K9 hn ?_
   refine X28 _ _ _ ?_
   refine X27 _ _ _ ?_
   refine E26 _ _ ?_
   refine A25 _ _ ?_
   exact jn ⟨_,sj h73⟩ []
  ·obtain ⟨hx78,hd2,hlt79⟩:=F8 hd75
   replace h73:=(O5.eq_2 _ _ _ _ _).symm.trans h73
   refine j6 hn ?_
   refine j4.seqQ fun _ A29 _ _=>?_
   refine q8 hn ?_
   refine d9 hlt79 ?_
   refine y5 hn ?_
   refine A29 _ _ ?_
   refine j4.seqQ fun _ A30 _ _=>?_
   refine j4.blkQ fun _ A31 _ _ _=>?_
   refine j6 hn ?_
   refine aC9 hx78 ?_
   refine j6 hn ?_
   refine C8 (fun _=>?_)
   refine Exists.intro (List.map U0 [x77.cls,(x77.slots.length:Int)]) (And.intro (by repeat (first|exact trivial|exact rfl|(refine And.intro ?_ ?_))) ?_)
   obtain ⟨r81,hr82,h73⟩:=j5 h73
   show l7 Tryd.prog _ _ _ _
   refine cF ((O1 N [x77.cls,(x77.slots.length:Int)] v69 r81 hr82).sw 1016 3) ?_
   refine kp [(3,_),(4,_),(12,_),(102,_),(103,_),(104,_)] [(3,_),(12,_),(2000,_)] ?_
   refine j6 hn ?_
   refine C8 (fun hl83=>?_)
   obtain ⟨o88,h89,h73⟩:=j5 h73
   refine jk (ι:={ s // o88=s }) hn (fun s=>[]) (fun s=>[(3,.box [.str s.1] 9)]) [(3,_),(4,_),(102,_),(103,_),(104,_)] [(2000,_)] (fun _ A32 _ _=>?_) ?_
   ·refine j4.blkQ fun _ _ E33 _ _=>?_
    refine lq (ι:={ q:((List V)×Nat×ByteArray) // q.1=x77.slots.drop q.2.1∧O7 N q.1 q.2.1 q.2.2=some o88 }) hn (fun q=>[(119,.int (q.1.2.1:Int))]) (fun q=>[(3,.box [.str q.1.2.2] 9)]) (fun q=>q.1.1.length) [(3,_),(4,_),(102,_),(103,_),(104,_),(117,_),(118,_)] [(2000,_)] ⟨(x77.slots,0,r81),rfl,h89⟩ [] ?_
    rintro ⟨⟨rest_,k84,v85⟩,hd91,h89⟩ _ A34 X34 _
    replace hd91:rest_=x77.slots.drop k84:=hd91
    rcases rest_ with _|⟨x93,rest90⟩
    ·have hlt95:=N8 hd91
     replace h89:=(O7.eq_1 _ _ _).symm.trans h89
     refine j6 hn ?_
     refine j4.seqQ fun _ _ X35 _=>?_
     refine q8 hn ?_
     refine j3 hlt95 ?_
     refine K9 hn ?_
     refine X35 _ _ _ ?_
     refine X34 _ _ _ ?_
     refine E33 _ _ ?_
     refine A32 _ _ ?_
     exact jn ⟨_,sj h89⟩ []
    ·obtain ⟨hx94,hd2,hlt95⟩:=F8 hd91
     replace h89:=(O7.eq_2 _ _ _ _ _).symm.trans h89
     refine j6 hn ?_
     refine j4.seqQ fun _ A36 _ _=>?_
     refine q8 hn ?_
     refine d9 hlt95 ?_
     refine y5 hn ?_
     refine A36 _ _ ?_
     refine j4.seqQ fun _ A37 _ _=>?_
     refine j4.blkQ fun _ A38 _ _ _=>?_
     refine j6 hn ?_
     refine aC9 hx94 ?_
     refine y7 hn ?_
     refine Exists.intro (List.map U0 [x93.k,x93.n]) (And.intro (by repeat (first|exact trivial|exact rfl|(refine And.intro ?_ ?_))) ?_)
     obtain ⟨r96,hr97,h89⟩:=j5 h89
     show l7 Tryd.prog _ _ _ _
     refine cF ((O1 N [x93.k,x93.n] v85 r96 hr97).sw 1016 3) ?_
     refine A38 _ _ ?_
     refine A37 _ _ ?_
     refine kp [(3,_),(4,_),(102,_),(103,_),(104,_),(117,_),(118,_),(119,_)] [(3,_),(2000,_)] ?_
     refine y7 hn ?_
     refine Or.inl (And.intro (aD0 hx94 hl83) ?_)
     refine A34 _ _ ?_
     exact jn ⟨(rest90,k84+1,r96),hd2,h89⟩ [] (by show rest90.length < rest90.length+1; omega)
   rintro ⟨v87,hv_⟩
   replace hv_:=hv_.symm
   subst hv_
   refine A31 _ _ ?_
   refine A30 _ _ ?_
   refine y7 hn ?_
   refine Or.inl (And.intro (aD0 hx78 hl67) ?_)
   refine A27 _ _ ?_
   exact jn ⟨(rest74,k68+1,v87),hd2,h73⟩ [] (by show rest74.length < rest74.length+1; omega)
 rintro ⟨v71,hv_⟩
 replace hv_:=hv_.symm
 subst hv_
 refine A24 _ _ ?_
 refine j6 hn ?_
 refine got hn ?_
 obtain rfl:=Option.some.inj h
 exact ⟨[],_,fm⟩

/- qclaw4.alive -/
set_option maxRecDepth 100000 in
set_option maxHeartbeats 8000000 in
theorem bD7 (N:Nat) (r:Bool) (h:aD4 N =some r):Spec Tryd.prog 5 [(2000,GL)] [] (.bool r) [(2000,GL)] []:=by
 refine Spec.of G9 Tryd.func5 rfl Tryd.ntmps5 (by kernel_rfl) rfl rfl rfl fun Γ hn=>?_
 unfold aD4 at h
 refine j6 hn ?_
 refine j6 hn ?_
 obtain ⟨r1,hr2,h⟩:=j5 h
 show l7 Tryd.prog _ _ _ _
 refine cA (aX0 N  r1 hr2) ?_
 obtain ⟨r3,hr4,h⟩:=j5 h
 show l7 Tryd.prog _ _ _ _
 refine cA (aW8 N r1 r3 hr4) ?_
 refine j6 hn ?_
 obtain ⟨r5,hr6,h⟩:=j5 h
 show l7 Tryd.prog _ _ _ _
 refine cA (aW9 N r3 r5 hr6) ?_
 refine j4.seqQ fun _ A0 _ _=>?_
 obtain ⟨o9,h8,h⟩:=j5 h
 refine jk (ι:={ s // o9=s }) hn (fun s=>[(0,.bool s.1)]) (fun s=>[]) [] [(2000,_)] (fun _ A1 _ _=>?_) ?_
 ·refine kp [(1,_),(2,_),(3,_)] [(2,_),(2000,_)] ?_
  refine god hn (by kernel_rfl) ?_
  refine l5 h8 (fun hb10 h8=>?_) (fun hb10 h8=>?_)
  ·refine d9 hb10 ?_
   refine d9 hb10 ?_
   refine C8 (fun _=>?_)
   refine d9 hb10 ?_
   refine d9 hb10 ?_
   refine l5 h8 (fun hb12 h8=>?_) (fun hb12 h8=>?_)
   ·refine d9 hb12 ?_
    refine Exists.intro r3 (And.intro rfl ?_)
    refine d9 hb12 ?_
    obtain ⟨r13,hr14,h8⟩:=j5 h8
    show l7 Tryd.prog _ _ _ _
    refine cA (aX0 N  r13 hr14) ?_
    refine d9 hb12 ?_
    obtain ⟨r15,hr16,h8⟩:=j5 h8
    show l7 Tryd.prog _ _ _ _
    refine cA (bG5 N r13 r15 hr16) ?_
    refine d9 hb12 ?_
    refine d9 hb12 ?_
    refine l5 h8 (fun hb17 h8=>?_) (fun hb17 h8=>?_)
    ·refine d9 hb17 ?_
     obtain ⟨r18,hr19,h8⟩:=j5 h8
     show l7 Tryd.prog _ _ _ _
     refine cA (aF8 N r5.1 r18 hr19) ?_
     refine d9 hb17 ?_
     refine d9 hb17 ?_
     refine l5 h8 (fun hb20 h8=>?_) (fun hb20 h8=>?_)
     ·refine d9 hb20 ?_
      obtain ⟨r21,hr22,h8⟩:=j5 h8
      show l7 Tryd.prog _ _ _ _
      refine cA (aF8 N (⟨[],[],(0:Int)⟩:Wd) r21 hr22) ?_
      refine d9 hb20 ?_
      refine d9 hb20 ?_
      refine A1 _ _ ?_
      exact jn ⟨_,sj h8⟩ []
     refine j3 hb20 ?_
     refine j3 hb20 ?_
     refine j3 hb20 ?_
     refine A1 _ _ ?_
     exact jn ⟨_,sj h8⟩ []
    refine j3 hb17 ?_
    refine j3 hb17 ?_
    refine j3 hb17 ?_
    refine A1 _ _ ?_
    exact jn ⟨_,sj h8⟩ []
   refine j3 hb12 ?_
   refine j3 hb12 ?_
   refine j3 hb12 ?_
   refine j3 hb12 ?_
   refine j3 hb12 ?_
   refine A1 _ _ ?_
   exact jn ⟨_,sj h8⟩ []
  refine j3 hb10 ?_
  refine j3 hb10 ?_
  refine j3 hb10 ?_
  refine j3 hb10 ?_
  refine A1 _ _ ?_
  exact jn ⟨_,sj h8⟩ []
 rintro ⟨v7,hv_⟩
 replace hv_:=hv_.symm
 subst hv_
 refine A0 _ _ ?_
 refine got hn ?_
 obtain rfl:=Option.some.inj h
 exact ⟨[],_,fm⟩

/- qclaw4.WireCut -/
set_option maxRecDepth 100000 in
set_option maxHeartbeats 8000000 in
theorem a15 (N:Nat) (a0:Wd) (a1:Int) (r:Bool) (h:aE4 N a0 a1=some r):Spec Tryd.prog 4 [(2000,GL)] [.agg (eWd a0),.int a1] (.bool r) [(2000,GL)] []:=by
 refine Spec.of G9 Tryd.func4 rfl Tryd.ntmps4 (by kernel_rfl) rfl rfl rfl fun Γ hn=>?_
 unfold aE4 at h
 refine j6 hn ?_
 refine j4.seqQ fun _ A0 _ R0=>?_
 refine j6 hn ?_
 obtain ⟨r1,hr2,h⟩:=j5 h
 show l7 Tryd.prog _ _ _ _
 refine cA (bD7 N  r1 hr2) ?_
 refine q8 hn ?_
 refine l5 h (fun hb3 h=>?_) (fun hb3 h=>?_)
 ·refine j6 hn ?_
  refine got hn ?_
  refine R0 _ _ ?_
  obtain rfl:=Option.some.inj h
  exact ⟨[],_,fm⟩
 refine y5 hn ?_
 refine A0 _ _ ?_
 refine j4.seqQ fun _ A1 _ R1=>?_
 refine j6 hn ?_
 obtain ⟨r4,hr5,h⟩:=j5 h
 show l7 Tryd.prog _ _ _ _
 refine cA (aF8 N a0 r4 hr5) ?_
 refine q8 hn ?_
 refine l5 h (fun hb6 h=>?_) (fun hb6 h=>?_)
 ·refine j6 hn ?_
  refine got hn ?_
  refine R1 _ _ ?_
  obtain rfl:=Option.some.inj h
  exact ⟨[],_,fm⟩
 refine y5 hn ?_
 refine A1 _ _ ?_
 refine j6 hn ?_
 obtain ⟨r7,hr8,h⟩:=j5 h
 show l7 Tryd.prog _ _ _ _
 refine cA (aW8 N a0 r7 hr8) ?_
 refine j4.seqQ fun _ A2 _ R2=>?_
 refine j4.seqQ fun _ A3 _ _=>?_
 obtain ⟨o11,h10,h⟩:=j5 h
 refine jk (ι:={ s // o11=s }) hn (fun s=>[(22,.bool s.1)]) (fun s=>[]) [(1,_),(5,_)] [(2000,_)] (fun _ A4 _ _=>?_) ?_
 ·refine y7 hn ?_
  refine l5 h10 (fun hb12 h10=>?_) (fun hb12 h10=>?_)
  ·refine d9 hb12 ?_
   refine d9 hb12 ?_
   refine d9 hb12 ?_
   refine d9 hb12 ?_
   refine A4 _ _ ?_
   exact jn ⟨_,sj h10⟩ []
  refine j3 hb12 ?_
  refine j3 hb12 ?_
  refine C8 (fun _=>?_)
  refine j3 hb12 ?_
  refine j3 hb12 ?_
  refine A4 _ _ ?_
  exact jn ⟨_,sj h10⟩ []
 rintro ⟨v9,hv_⟩
 replace hv_:=hv_.symm
 subst hv_
 refine A3 _ _ ?_
 refine q8 hn ?_
 refine l5 h (fun hb14 h=>?_) (fun hb14 h=>?_)
 ·refine j6 hn ?_
  refine got hn ?_
  refine R2 _ _ ?_
  obtain rfl:=Option.some.inj h
  exact ⟨[],_,fm⟩
 refine y5 hn ?_
 refine A2 _ _ ?_
 refine j6 hn ?_
 obtain ⟨hg15,h⟩:=J7 h
 refine cM1 hg15 rfl rfl ?_
 obtain ⟨r16,hr17,h⟩:=j5 h
 show l7 Tryd.prog _ _ _ _
 refine cA (aW9 N (r7.take a1.toNat) r16 hr17) ?_
 refine j6 hn ?_
 refine got hn ?_
 obtain rfl:=Option.some.inj h
 exact ⟨[],_,fm⟩
end Go.Proofs.YtibjcppjfkamhaaDoor
