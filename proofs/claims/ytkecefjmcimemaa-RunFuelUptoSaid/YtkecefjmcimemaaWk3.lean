/- Walks after the mirrors. Printed by mir.py. -/
import Derived.Test.YtkecefjmcimemaaWk2
namespace Go.Proofs.Ytkecefjmcimemaa
open Go.RowKit
set_option linter.unusedVariables false
/- run.Plain$1 -/
set_option maxRecDepth 100000 in
set_option maxHeartbeats 8000000 in
theorem run_Plain_1_ok (N : Nat) (a0 : St) (a1 : Int) (a2 : ByteArray) (b0 : Wd) (r : (Int × Int)) (h : run_Plain_1 N a0 a1 a2 b0 = some r) : Spec Try.prog 42 [] [.agg (eSt a0), .int a1, .str a2, .fp (eWd b0)] (.tup [.int r.1, .int r.2]) [] [] := by
 refine Spec.of tabOk Try.func42 rfl Try.ntmps42 (by kernel_rfl) rfl rfl rfl fun Γ hn => ?_
 unfold run_Plain_1 at h
 refine gos hn ?_
 refine gos hn ?_
 obtain ⟨r1, hr2, h⟩ := bindM h
 show CallOk Try.prog _ _ _ _
 refine cA (class_Find_ok N b0 a1 a2 r1 hr2) ?_
 refine got hn ?_
 obtain rfl := Option.some.inj h
 exact ⟨[], _, fm⟩

/- run.None -/
set_option maxRecDepth 100000 in
set_option maxHeartbeats 8000000 in
theorem run_None_ok (N : Nat) (a0 : Int) (a1 : Int) (r : (Fs × Bool)) (h : run_None N a0 a1 = some r) : Spec Try.prog 44 [] [.int a0, .int a1] (.tup [.agg (eFs r.1), .bool r.2]) [] [] := by
 refine Spec.of tabOk Try.func44 rfl Try.ntmps44 (by kernel_rfl) rfl rfl rfl fun Γ hn => ?_
 unfold run_None at h
 refine gos hn ?_
 refine gos hn ?_
 refine got hn ?_
 obtain rfl := Option.some.inj h
 exact ⟨[], _, fm⟩

/- run.Plain -/
set_option maxRecDepth 100000 in
set_option maxHeartbeats 8000000 in
theorem run_Plain_ok (N : Nat) (a0 : Wd) (a1 : TCall) (a2 : Int) (r : (Wd × TRan)) (h : run_Plain N a0 a1 a2 = some r) : Spec Try.prog 14 [] [.agg (eWd a0), .agg (eTCall a1), .int a2] (.tup [.agg (eWd r.1), .agg (eTRan r.2)]) [] [] := by
 refine Spec.of tabOk Try.func14 rfl Try.ntmps14 (by kernel_rfl) rfl rfl rfl fun Γ hn => ?_
 unfold run_Plain at h
 refine gos hn ?_
 refine COk.gh (Gh.fzBox 3 3 rfl rfl rfl) (fun _ => ?_)
 refine kp [(2, _), (3, _), (4, _), (6, _), (7, _)] [(4, _), (6, _), (7, _)] ?_
 refine gos hn ?_
 obtain ⟨r1, hr2, h⟩ := bindM h
 show CallOk Try.prog _ _ _ _
 refine cA (run_With_c1_0_ok N a0 a1 a2 (fun x0_ x1_ x2_ => run_Plain_1 N x0_ x1_ x2_ a0) (fun x0_ x1_ => run_None N x0_ x1_) (fun x0_ x1_ x2_ y_ hy_ => run_Plain_1_ok N x0_ x1_ x2_ a0 y_ hy_) (fun x0_ x1_ y_ hy_ => run_None_ok N x0_ x1_ y_ hy_) r1 hr2) ?_
 refine got hn ?_
 obtain rfl := Option.some.inj h
 exact ⟨[], _, fm⟩

/- qcref1.SameCode -/
set_option maxRecDepth 100000 in
set_option maxHeartbeats 8000000 in
theorem qcref1_SameCode_ok (N : Nat) (a0 : (List Ins)) (a1 : (List Ins)) (r : Bool) (h : qcref1_SameCode N a0 a1 = some r) : Spec Try.prog 49 [] [.sl 5 (List.map eIns a0), .sl 5 (List.map eIns a1)] (.bool r) [] [] := by
 refine Spec.of tabOk Try.func49 rfl Try.ntmps49 (by kernel_rfl) rfl rfl rfl fun Γ hn => ?_
 unfold qcref1_SameCode at h
 refine gos hn ?_
 refine COk.seqQ fun _ A0 _ R0 => ?_
 refine gos hn ?_
 refine lenM (fun hl1 => ?_)
 refine lenM (fun hl2 => ?_)
 refine goc hn ?_
 refine bselM h (fun hb3 h => ?_) (fun hb3 h => ?_)
 ·refine gos hn ?_
  refine got hn ?_
  refine R0 _ _ ?_
  obtain rfl := Option.some.inj h
  exact ⟨[], _, fm⟩
 refine gok hn ?_
 refine A0 _ _ ?_
 refine COk.seqQ fun _ A1 _ R1 => ?_
 refine gos hn ?_
 refine lenM (fun hl4 => ?_)
 obtain ⟨o6, h7, h⟩ := bindM h
 refine COk.joinR (ι := { s // o6 = Ctl.next s }) (fun s => []) (fun s => []) (fun _ A2 _ R2 => ?_) (by intro s; rw [hn]; rfl) ?_
 ·refine COk.blkQ fun _ _ E3 _ R3 => ?_
  refine COk.loopQ (ι := { q : ((List Ins) × Nat) // q.1 = a0.drop q.2 ∧ qcref1_SameCode_l1 N a1 q.1 q.2 = some o6 }) (fun q => [(0, .sl 5 (List.map eIns a0)), (1, .sl 5 (List.map eIns a1)), (12, .int (a0.length : Int)), (13, .int (q.1.2 : Int))]) (fun q => []) (fun q => q.1.1.length) ⟨(a0, 0), rfl, h7⟩ [] ⟨⟨(by repeat (first | exact trivial | exact rfl | (refine And.intro ?_ ?_))), (by repeat (first | exact trivial | exact rfl | (refine And.intro ?_ ?_))), rfl, rfl, trivial⟩, trivial, rfl, rfl⟩ (by intro q; rw [hn]; rfl) ?_
  rintro ⟨⟨rest_, k5⟩, hd9, h7⟩ _ A4 X4 R4
  replace hd9 : rest_ = a0.drop k5 := hd9
  rcases rest_ with _ | ⟨x11, rest8⟩
  ·have hlt13 := restNil hd9
   replace h7 := (qcref1_SameCode_l1.eq_1 _ _ _).symm.trans h7
   refine gos hn ?_
   refine COk.seqQ fun _ _ X5 _ => ?_
   refine goc hn ?_
   refine bselF hlt13 ?_
   refine goe hn ?_
   refine X5 _ _ _ ?_
   refine X4 _ _ _ ?_
   refine E3 _ _ ?_
   refine A2 _ _ ?_
   obtain rfl := Option.some.inj h7
   exact jn ⟨_, rfl⟩ []
  ·obtain ⟨hx12, hd2, hlt13⟩ := restCons hd9
   replace h7 := (qcref1_SameCode_l1.eq_2 _ _ _ _ _).symm.trans h7
   refine gos hn ?_
   refine COk.seqQ fun _ A6 _ _ => ?_
   refine goc hn ?_
   refine bselT hlt13 ?_
   refine gok hn ?_
   refine A6 _ _ ?_
   refine COk.seqQ fun _ A7 _ R7 => ?_
   refine COk.blkQ fun _ A8 _ _ R8 => ?_
   refine gos hn ?_
   refine COk.seqQ fun _ A9 _ _ => ?_
   refine god hn (by kernel_rfl) ?_
   refine idxK hx12 ?_
   obtain ⟨x14, hx15, h7⟩ := bindM h7
   refine idxM hx15 ?_
   refine A9 _ _ ?_
   refine goc hn ?_
   refine bselM h7 (fun hb16 h7 => ?_) (fun hb16 h7 => ?_)
   ·refine gos hn ?_
    refine got hn ?_
    refine R8 _ _ ?_
    refine R7 _ _ ?_
    refine R4 _ _ ?_
    refine R3 _ _ ?_
    refine R2 _ _ ?_
    refine R1 _ _ ?_
    obtain rfl := Option.some.inj h7
    obtain rfl := Option.some.inj h
    exact ⟨[], _, fm⟩
   refine gok hn ?_
   refine A8 _ _ ?_
   refine A7 _ _ ?_
   refine gor hn ?_
   refine Or.inl (And.intro (inrK hx12 hl4) ?_)
   refine A4 _ _ ?_
   exact jn ⟨(rest8, k5 + 1), hd2, h7⟩ [] (by show rest8.length < rest8.length + 1; omega)
 rintro ⟨⟨⟩, rfl⟩
 refine A1 _ _ ?_
 refine gos hn ?_
 refine got hn ?_
 obtain rfl := Option.some.inj h
 exact ⟨[], _, fm⟩

/- qcref1.SameWorld -/
set_option maxRecDepth 100000 in
set_option maxHeartbeats 8000000 in
theorem qcref1_SameWorld_ok (N : Nat) (a0 : Wd) (a1 : Wd) (r : Bool) (h : qcref1_SameWorld N a0 a1 = some r) : Spec Try.prog 18 [] [.agg (eWd a0), .agg (eWd a1)] (.bool r) [] [] := by
 refine Spec.of tabOk Try.func18 rfl Try.ntmps18 (by kernel_rfl) rfl rfl rfl fun Γ hn => ?_
 unfold qcref1_SameWorld at h
 refine gos hn ?_
 refine COk.seqQ fun _ A0 _ R0 => ?_
 refine COk.seqQ fun _ A1 _ _ => ?_
 obtain ⟨o3, h2, h⟩ := bindM h
 refine COk.joinR (ι := { s // o3 = s }) (fun s => [(2, .ptr 2 0), (3, .ptr 3 0), (36, .bool s.1)]) (fun s => [(2, .box (eWd a0) 25), (3, .box (eWd a1) 25)]) (fun _ A2 _ _ => ?_) (by intro s; rw [hn]; rfl) ?_
 ·refine gor hn ?_
  refine bselM h2 (fun hb4 h2 => ?_) (fun hb4 h2 => ?_)
  ·refine bselT hb4 ?_
   refine bselT hb4 ?_
   refine bselT hb4 ?_
   refine bselT hb4 ?_
   refine bselT hb4 ?_
   refine bselT hb4 ?_
   refine bselT hb4 ?_
   refine A2 _ _ ?_
   obtain rfl := Option.some.inj h2
   exact jn ⟨_, rfl⟩ []
  refine bselF hb4 ?_
  refine bselF hb4 ?_
  refine lenM (fun hl5 => ?_)
  refine bselF hb4 ?_
  refine bselF hb4 ?_
  refine bselF hb4 ?_
  refine lenM (fun hl6 => ?_)
  refine bselF hb4 ?_
  refine bselF hb4 ?_
  refine bselM h2 (fun hb7 h2 => ?_) (fun hb7 h2 => ?_)
  ·refine bselT hb7 ?_
   refine bselT hb7 ?_
   refine bselT hb7 ?_
   refine bselT hb7 ?_
   refine bselT hb7 ?_
   refine bselT hb7 ?_
   refine bselT hb7 ?_
   refine A2 _ _ ?_
   obtain rfl := Option.some.inj h2
   exact jn ⟨_, rfl⟩ []
  refine bselF hb7 ?_
  refine bselF hb7 ?_
  refine lenM (fun hl8 => ?_)
  refine bselF hb7 ?_
  refine bselF hb7 ?_
  refine bselF hb7 ?_
  refine lenM (fun hl9 => ?_)
  refine bselF hb7 ?_
  refine bselF hb7 ?_
  refine A2 _ _ ?_
  obtain rfl := Option.some.inj h2
  exact jn ⟨_, rfl⟩ []
 rintro ⟨v1, hv_⟩
 replace hv_ := hv_.symm
 subst hv_
 refine A1 _ _ ?_
 refine goc hn ?_
 refine bselM h (fun hb10 h => ?_) (fun hb10 h => ?_)
 ·refine gos hn ?_
  refine got hn ?_
  refine R0 _ _ ?_
  obtain rfl := Option.some.inj h
  exact ⟨[], _, fm⟩
 refine gok hn ?_
 refine A0 _ _ ?_
 refine COk.seqQ fun _ A3 _ R3 => ?_
 refine gos hn ?_
 refine lenM (fun hl11 => ?_)
 obtain ⟨o13, h14, h⟩ := bindM h
 refine COk.joinR (ι := { s // o13 = Ctl.next s }) (fun s => [(2, .ptr 2 0), (3, .ptr 3 0)]) (fun s => [(2, .box (eWd a0) 25), (3, .box (eWd a1) 25)]) (fun _ A4 _ R4 => ?_) (by intro s; rw [hn]; rfl) ?_
 ·refine COk.blkQ fun _ _ E5 _ R5 => ?_
  refine COk.loopQ (ι := { q : ((List Cl) × Nat) // q.1 = a0.classes.drop q.2 ∧ qcref1_SameWorld_l1 N a1 q.1 q.2 = some o13 }) (fun q => [(2, .ptr 2 0), (3, .ptr 3 0), (38, .sl 4 (List.map eCl a0.classes)), (39, .int (a0.classes.length : Int)), (40, .int (q.1.2 : Int))]) (fun q => [(2, .box (eWd a0) 25), (3, .box (eWd a1) 25)]) (fun q => q.1.1.length) ⟨(a0.classes, 0), rfl, h14⟩ [] ⟨⟨rfl, rfl, (by repeat (first | exact trivial | exact rfl | (refine And.intro ?_ ?_))), rfl, rfl, trivial⟩, ⟨rfl, rfl, trivial⟩, rfl, rfl⟩ (by intro q; rw [hn]; rfl) ?_
  rintro ⟨⟨rest_, k12⟩, hd16, h14⟩ _ A6 X6 R6
  replace hd16 : rest_ = a0.classes.drop k12 := hd16
  rcases rest_ with _ | ⟨x18, rest15⟩
  ·have hlt20 := restNil hd16
   replace h14 := (qcref1_SameWorld_l1.eq_1 _ _ _).symm.trans h14
   refine gos hn ?_
   refine COk.seqQ fun _ _ X7 _ => ?_
   refine goc hn ?_
   refine bselF hlt20 ?_
   refine goe hn ?_
   refine X7 _ _ _ ?_
   refine X6 _ _ _ ?_
   refine E5 _ _ ?_
   refine A4 _ _ ?_
   obtain rfl := Option.some.inj h14
   exact jn ⟨_, rfl⟩ []
  ·obtain ⟨hx19, hd2, hlt20⟩ := restCons hd16
   replace h14 := (qcref1_SameWorld_l1.eq_2 _ _ _ _ _).symm.trans h14
   refine gos hn ?_
   refine COk.seqQ fun _ A8 _ _ => ?_
   refine goc hn ?_
   refine bselT hlt20 ?_
   refine gok hn ?_
   refine A8 _ _ ?_
   refine COk.seqQ fun _ A9 _ R9 => ?_
   refine COk.blkQ fun _ A10 _ _ R10 => ?_
   refine gos hn ?_
   refine idxK hx19 ?_
   refine gos hn ?_
   obtain ⟨x21, hx22, h14⟩ := bindM h14
   refine idxM hx22 ?_
   refine COk.seqQ fun _ A11 _ R11 => ?_
   refine COk.seqQ fun _ A12 _ _ => ?_
   obtain ⟨o25, h24, h14⟩ := bindM h14
   refine COk.joinR (ι := { s // o25 = s }) (fun s => [(2, .ptr 2 0), (3, .ptr 3 0), (6, .ptr 6 0), (7, .ptr 7 0), (38, .sl 4 (List.map eCl a0.classes)), (39, .int (a0.classes.length : Int)), (40, .int (k12 : Int)), (77, .bool s.1)]) (fun s => [(2, .box (eWd a0) 25), (3, .box (eWd a1) 25), (6, .box (eCl x18) 51), (7, .box (eCl x21) 51)]) (fun _ A13 _ _ => ?_) (by intro s; rw [hn]; rfl) ?_
   ·refine kp [(2, _), (3, _), (6, _), (7, _), (38, _), (39, _), (40, _)] [(2, _), (3, _), (6, _), (7, _)] ?_
    refine gor hn ?_
    refine bselM h24 (fun hb26 h24 => ?_) (fun hb26 h24 => ?_)
    ·refine bselT hb26 ?_
     refine bselT hb26 ?_
     refine bselT hb26 ?_
     refine bselT hb26 ?_
     refine bselT hb26 ?_
     refine A13 _ _ ?_
     obtain rfl := Option.some.inj h24
     exact jn ⟨_, rfl⟩ []
    refine bselF hb26 ?_
    refine bselF hb26 ?_
    refine bselF hb26 ?_
    refine bselF hb26 ?_
    refine bselF hb26 ?_
    refine bselM h24 (fun hb27 h24 => ?_) (fun hb27 h24 => ?_)
    ·refine bselT hb27 ?_
     refine bselT hb27 ?_
     refine bselT hb27 ?_
     refine bselT hb27 ?_
     refine bselT hb27 ?_
     refine A13 _ _ ?_
     obtain rfl := Option.some.inj h24
     exact jn ⟨_, rfl⟩ []
    refine bselF hb27 ?_
    refine bselF hb27 ?_
    refine bselF hb27 ?_
    refine bselF hb27 ?_
    refine bselF hb27 ?_
    refine bselM h24 (fun hb28 h24 => ?_) (fun hb28 h24 => ?_)
    ·refine bselT hb28 ?_
     refine bselT hb28 ?_
     refine bselT hb28 ?_
     refine bselT hb28 ?_
     refine bselT hb28 ?_
     refine bselT hb28 ?_
     refine bselT hb28 ?_
     refine A13 _ _ ?_
     obtain rfl := Option.some.inj h24
     exact jn ⟨_, rfl⟩ []
    refine bselF hb28 ?_
    refine bselF hb28 ?_
    refine lenM (fun hl29 => ?_)
    refine bselF hb28 ?_
    refine bselF hb28 ?_
    refine bselF hb28 ?_
    refine lenM (fun hl30 => ?_)
    refine bselF hb28 ?_
    refine bselF hb28 ?_
    refine A13 _ _ ?_
    obtain rfl := Option.some.inj h24
    exact jn ⟨_, rfl⟩ []
   rintro ⟨v23, hv_⟩
   replace hv_ := hv_.symm
   subst hv_
   refine A12 _ _ ?_
   refine goc hn ?_
   refine bselM h14 (fun hb31 h14 => ?_) (fun hb31 h14 => ?_)
   ·refine gos hn ?_
    refine got hn ?_
    refine R11 _ _ ?_
    refine R10 _ _ ?_
    refine R9 _ _ ?_
    refine R6 _ _ ?_
    refine R5 _ _ ?_
    refine R4 _ _ ?_
    refine R3 _ _ ?_
    obtain rfl := Option.some.inj h14
    obtain rfl := Option.some.inj h
    exact ⟨[], _, fm⟩
   refine gok hn ?_
   refine A11 _ _ ?_
   refine gos hn ?_
   refine lenM (fun hl32 => ?_)
   obtain ⟨o34, h35, h14⟩ := bindM h14
   refine COk.joinR (ι := { s // o34 = Ctl.next s }) (fun s => [(2, .ptr 2 0), (3, .ptr 3 0), (38, .sl 4 (List.map eCl a0.classes)), (39, .int (a0.classes.length : Int)), (40, .int (k12 : Int))]) (fun s => [(2, .box (eWd a0) 25), (3, .box (eWd a1) 25)]) (fun _ A14 _ R14 => ?_) (by intro s; rw [hn]; rfl) ?_
   ·refine COk.blkQ fun _ _ E15 _ R15 => ?_
    refine COk.loopQ (ι := { q : ((List Me) × Nat) // q.1 = x18.methods.drop q.2 ∧ qcref1_SameWorld_l2 N x21 q.1 q.2 = some o34 }) (fun q => [(2, .ptr 2 0), (3, .ptr 3 0), (7, .ptr 7 0), (38, .sl 4 (List.map eCl a0.classes)), (39, .int (a0.classes.length : Int)), (40, .int (k12 : Int)), (79, .sl 5 (List.map eMe x18.methods)), (80, .int (x18.methods.length : Int)), (81, .int (q.1.2 : Int))]) (fun q => [(2, .box (eWd a0) 25), (3, .box (eWd a1) 25), (7, .box (eCl x21) 51)]) (fun q => q.1.1.length) ⟨(x18.methods, 0), rfl, h35⟩ [] ⟨⟨rfl, rfl, rfl, (by repeat (first | exact trivial | exact rfl | (refine And.intro ?_ ?_))), rfl, rfl, (by repeat (first | exact trivial | exact rfl | (refine And.intro ?_ ?_))), rfl, rfl, trivial⟩, ⟨rfl, rfl, rfl, trivial⟩, rfl, rfl⟩ (by intro q; rw [hn]; rfl) ?_
    rintro ⟨⟨rest_, k33⟩, hd37, h35⟩ _ A16 X16 R16
    replace hd37 : rest_ = x18.methods.drop k33 := hd37
    rcases rest_ with _ | ⟨x39, rest36⟩
    ·have hlt41 := restNil hd37
     replace h35 := (qcref1_SameWorld_l2.eq_1 _ _ _).symm.trans h35
     refine gos hn ?_
     refine COk.seqQ fun _ _ X17 _ => ?_
     refine goc hn ?_
     refine bselF hlt41 ?_
     refine goe hn ?_
     refine X17 _ _ _ ?_
     refine X16 _ _ _ ?_
     refine E15 _ _ ?_
     refine A14 _ _ ?_
     obtain rfl := Option.some.inj h35
     exact jn ⟨_, rfl⟩ []
    ·obtain ⟨hx40, hd2, hlt41⟩ := restCons hd37
     replace h35 := (qcref1_SameWorld_l2.eq_2 _ _ _ _ _).symm.trans h35
     refine gos hn ?_
     refine COk.seqQ fun _ A18 _ _ => ?_
     refine goc hn ?_
     refine bselT hlt41 ?_
     refine gok hn ?_
     refine A18 _ _ ?_
     refine COk.seqQ fun _ A19 _ R19 => ?_
     refine COk.blkQ fun _ A20 _ _ R20 => ?_
     refine gos hn ?_
     refine idxK hx40 ?_
     refine gos hn ?_
     obtain ⟨x42, hx43, h35⟩ := bindM h35
     refine idxM hx43 ?_
     refine COk.seqQ fun _ A21 _ _ => ?_
     obtain ⟨o46, h45, h35⟩ := bindM h35
     refine COk.joinR (ι := { s // o46 = s }) (fun s => [(2, .ptr 2 0), (3, .ptr 3 0), (7, .ptr 7 0), (38, .sl 4 (List.map eCl a0.classes)), (39, .int (a0.classes.length : Int)), (40, .int (k12 : Int)), (79, .sl 5 (List.map eMe x18.methods)), (80, .int (x18.methods.length : Int)), (81, .int (k33 : Int)), (124, .bool s.1)]) (fun s => [(2, .box (eWd a0) 25), (3, .box (eWd a1) 25), (7, .box (eCl x21) 51)]) (fun _ A22 _ _ => ?_) (by intro s; rw [hn]; rfl) ?_
     ·refine kp [(2, _), (3, _), (7, _), (9, _), (10, _), (38, _), (39, _), (40, _), (79, _), (80, _), (81, _)] [(2, _), (3, _), (7, _), (9, _), (10, _)] ?_
      refine gor hn ?_
      refine bselM h45 (fun hb47 h45 => ?_) (fun hb47 h45 => ?_)
      ·refine bselT hb47 ?_
       refine bselT hb47 ?_
       refine bselT hb47 ?_
       refine bselT hb47 ?_
       refine bselT hb47 ?_
       refine A22 _ _ ?_
       obtain rfl := Option.some.inj h45
       exact jn ⟨_, rfl⟩ []
      refine bselF hb47 ?_
      refine bselF hb47 ?_
      refine bselF hb47 ?_
      refine bselF hb47 ?_
      refine bselF hb47 ?_
      refine bselM h45 (fun hb48 h45 => ?_) (fun hb48 h45 => ?_)
      ·refine bselT hb48 ?_
       refine bselT hb48 ?_
       refine bselT hb48 ?_
       refine bselT hb48 ?_
       refine bselT hb48 ?_
       refine A22 _ _ ?_
       obtain rfl := Option.some.inj h45
       exact jn ⟨_, rfl⟩ []
      refine bselF hb48 ?_
      refine bselF hb48 ?_
      refine bselF hb48 ?_
      refine bselF hb48 ?_
      refine bselF hb48 ?_
      refine bselM h45 (fun hb49 h45 => ?_) (fun hb49 h45 => ?_)
      ·refine bselT hb49 ?_
       refine bselT hb49 ?_
       refine bselT hb49 ?_
       refine bselT hb49 ?_
       refine bselT hb49 ?_
       refine A22 _ _ ?_
       obtain rfl := Option.some.inj h45
       exact jn ⟨_, rfl⟩ []
      refine bselF hb49 ?_
      refine bselF hb49 ?_
      refine bselF hb49 ?_
      refine bselF hb49 ?_
      refine bselF hb49 ?_
      refine bselM h45 (fun hb50 h45 => ?_) (fun hb50 h45 => ?_)
      ·refine bselT hb50 ?_
       refine bselT hb50 ?_
       refine bselT hb50 ?_
       refine bselT hb50 ?_
       refine bselT hb50 ?_
       refine bselT hb50 ?_
       refine A22 _ _ ?_
       obtain rfl := Option.some.inj h45
       exact jn ⟨_, rfl⟩ []
      refine bselF hb50 ?_
      refine bselF hb50 ?_
      refine bselF hb50 ?_
      refine bselF hb50 ?_
      obtain ⟨r51, hr52, h45⟩ := bindM h45
      show CallOk Try.prog _ _ _ _
      refine cA (qcref1_SameCode_ok N x39.code x42.code r51 hr52) ?_
      refine bselF hb50 ?_
      refine bselF hb50 ?_
      refine A22 _ _ ?_
      obtain rfl := Option.some.inj h45
      exact jn ⟨_, rfl⟩ []
     rintro ⟨v44, hv_⟩
     replace hv_ := hv_.symm
     subst hv_
     refine A21 _ _ ?_
     refine goc hn ?_
     refine bselM h35 (fun hb53 h35 => ?_) (fun hb53 h35 => ?_)
     ·refine gos hn ?_
      refine got hn ?_
      refine R20 _ _ ?_
      refine R19 _ _ ?_
      refine R16 _ _ ?_
      refine R15 _ _ ?_
      refine R14 _ _ ?_
      refine R10 _ _ ?_
      refine R9 _ _ ?_
      refine R6 _ _ ?_
      refine R5 _ _ ?_
      refine R4 _ _ ?_
      refine R3 _ _ ?_
      obtain rfl := Option.some.inj h35
      obtain rfl := Option.some.inj h14
      obtain rfl := Option.some.inj h
      exact ⟨[], _, fm⟩
     refine gok hn ?_
     refine A20 _ _ ?_
     refine A19 _ _ ?_
     refine gor hn ?_
     refine Or.inl (And.intro (inrK hx40 hl32) ?_)
     refine A16 _ _ ?_
     exact jn ⟨(rest36, k33 + 1), hd2, h35⟩ [] (by show rest36.length < rest36.length + 1; omega)
   rintro ⟨⟨⟩, rfl⟩
   refine A10 _ _ ?_
   refine A9 _ _ ?_
   refine gor hn ?_
   refine Or.inl (And.intro (inrK hx19 hl11) ?_)
   refine A6 _ _ ?_
   exact jn ⟨(rest15, k12 + 1), hd2, h14⟩ [] (by show rest15.length < rest15.length + 1; omega)
 rintro ⟨⟨⟩, rfl⟩
 refine A3 _ _ ?_
 refine COk.seqQ fun _ A23 _ R23 => ?_
 refine gos hn ?_
 refine lenM (fun hl54 => ?_)
 obtain ⟨o56, h57, h⟩ := bindM h
 refine COk.joinR (ι := { s // o56 = Ctl.next s }) (fun s => []) (fun s => []) (fun _ A24 _ R24 => ?_) (by intro s; rw [hn]; rfl) ?_
 ·refine COk.blkQ fun _ _ E25 _ R25 => ?_
  refine COk.loopQ (ι := { q : ((List Ob) × Nat) // q.1 = a0.heap.drop q.2 ∧ qcref1_SameWorld_l3 N a1 q.1 q.2 = some o56 }) (fun q => [(3, .ptr 3 0), (128, .sl 2 (List.map eOb a0.heap)), (129, .int (a0.heap.length : Int)), (130, .int (q.1.2 : Int))]) (fun q => [(3, .box (eWd a1) 25)]) (fun q => q.1.1.length) ⟨(a0.heap, 0), rfl, h57⟩ [] ⟨⟨rfl, (by repeat (first | exact trivial | exact rfl | (refine And.intro ?_ ?_))), rfl, rfl, trivial⟩, ⟨rfl, trivial⟩, rfl, rfl⟩ (by intro q; rw [hn]; rfl) ?_
  rintro ⟨⟨rest_, k55⟩, hd59, h57⟩ _ A26 X26 R26
  replace hd59 : rest_ = a0.heap.drop k55 := hd59
  rcases rest_ with _ | ⟨x61, rest58⟩
  ·have hlt63 := restNil hd59
   replace h57 := (qcref1_SameWorld_l3.eq_1 _ _ _).symm.trans h57
   refine gos hn ?_
   refine COk.seqQ fun _ _ X27 _ => ?_
   refine goc hn ?_
   refine bselF hlt63 ?_
   refine goe hn ?_
   refine X27 _ _ _ ?_
   refine X26 _ _ _ ?_
   refine E25 _ _ ?_
   refine A24 _ _ ?_
   obtain rfl := Option.some.inj h57
   exact jn ⟨_, rfl⟩ []
  ·obtain ⟨hx62, hd2, hlt63⟩ := restCons hd59
   replace h57 := (qcref1_SameWorld_l3.eq_2 _ _ _ _ _).symm.trans h57
   refine gos hn ?_
   refine COk.seqQ fun _ A28 _ _ => ?_
   refine goc hn ?_
   refine bselT hlt63 ?_
   refine gok hn ?_
   refine A28 _ _ ?_
   refine COk.seqQ fun _ A29 _ R29 => ?_
   refine COk.blkQ fun _ A30 _ _ R30 => ?_
   refine gos hn ?_
   refine idxK hx62 ?_
   refine COk.seqQ fun _ A31 _ R31 => ?_
   refine COk.seqQ fun _ A32 _ _ => ?_
   obtain ⟨o66, h65, h57⟩ := bindM h57
   refine COk.joinR (ι := { s // o66 = s }) (fun s => [(3, .ptr 3 0), (11, .int (k55 : Int)), (12, .ptr 12 0), (128, .sl 2 (List.map eOb a0.heap)), (129, .int (a0.heap.length : Int)), (130, .int (k55 : Int)), (156, .bool s.1)]) (fun s => [(3, .box (eWd a1) 25), (12, .box (eOb x61) 97)]) (fun _ A33 _ _ => ?_) (by intro s; rw [hn]; rfl) ?_
   ·refine COk.sub (ts2 := [(3, .ptr 3 0), (11, .int (k55 : Int)), (12, .ptr 12 0), (128, .sl 2 (List.map eOb a0.heap)), (129, .int (a0.heap.length : Int)), (130, .int (k55 : Int))]) (os2 := [(3, .box (eWd a1) 25), (12, .box (eOb x61) 97)]) [] ⟨⟨rfl, rfl, rfl, (by repeat (first | exact trivial | exact rfl | (refine And.intro ?_ ?_))), rfl, rfl, trivial⟩, ⟨rfl, rfl, trivial⟩, rfl, rfl⟩ (by rw [hn]; rfl) ?_
    refine god hn (by kernel_rfl) ?_
    obtain ⟨x67, hx68, h65⟩ := bindM h65
    refine idxM hx68 ?_
    refine bselM h65 (fun hb69 h65 => ?_) (fun hb69 h65 => ?_)
    ·refine bselT hb69 ?_
     refine bselT hb69 ?_
     refine bselT hb69 ?_
     refine bselT hb69 ?_
     refine bselT hb69 ?_
     refine bselT hb69 ?_
     refine bselT hb69 ?_
     refine bselT hb69 ?_
     refine bselT hb69 ?_
     refine bselT hb69 ?_
     refine bselT hb69 ?_
     refine A33 _ _ ?_
     obtain rfl := Option.some.inj h65
     exact jn ⟨_, rfl⟩ []
    refine bselF hb69 ?_
    refine bselF hb69 ?_
    refine lenM (fun hl70 => ?_)
    refine bselF hb69 ?_
    refine bselF hb69 ?_
    refine bselF hb69 ?_
    refine bselF hb69 ?_
    obtain ⟨x71, hx72, h65⟩ := bindM h65
    refine idxM hx72 ?_
    refine bselF hb69 ?_
    refine bselF hb69 ?_
    refine bselF hb69 ?_
    refine lenM (fun hl73 => ?_)
    refine bselF hb69 ?_
    refine bselF hb69 ?_
    refine A33 _ _ ?_
    obtain rfl := Option.some.inj h65
    exact jn ⟨_, rfl⟩ []
   rintro ⟨v64, hv_⟩
   replace hv_ := hv_.symm
   subst hv_
   refine A32 _ _ ?_
   refine goc hn ?_
   refine bselM h57 (fun hb74 h57 => ?_) (fun hb74 h57 => ?_)
   ·refine gos hn ?_
    refine got hn ?_
    refine R31 _ _ ?_
    refine R30 _ _ ?_
    refine R29 _ _ ?_
    refine R26 _ _ ?_
    refine R25 _ _ ?_
    refine R24 _ _ ?_
    refine R23 _ _ ?_
    obtain rfl := Option.some.inj h57
    obtain rfl := Option.some.inj h
    exact ⟨[], _, fm⟩
   refine gok hn ?_
   refine A31 _ _ ?_
   refine gos hn ?_
   refine lenM (fun hl75 => ?_)
   obtain ⟨o77, h78, h57⟩ := bindM h57
   refine COk.joinR (ι := { s // o77 = Ctl.next s }) (fun s => [(3, .ptr 3 0), (128, .sl 2 (List.map eOb a0.heap)), (129, .int (a0.heap.length : Int)), (130, .int (k55 : Int))]) (fun s => [(3, .box (eWd a1) 25)]) (fun _ A34 _ R34 => ?_) (by intro s; rw [hn]; rfl) ?_
   ·refine COk.blkQ fun _ _ E35 _ R35 => ?_
    refine COk.loopQ (ι := { q : ((List V) × Nat) // q.1 = x61.slots.drop q.2 ∧ qcref1_SameWorld_l4 N a1 k55 q.1 q.2 = some o77 }) (fun q => [(3, .ptr 3 0), (11, .int (k55 : Int)), (12, .ptr 12 0), (128, .sl 2 (List.map eOb a0.heap)), (129, .int (a0.heap.length : Int)), (130, .int (k55 : Int)), (159, .int (x61.slots.length : Int)), (160, .int (q.1.2 : Int))]) (fun q => [(3, .box (eWd a1) 25), (12, .box (eOb x61) 97)]) (fun q => q.1.1.length) ⟨(x61.slots, 0), rfl, h78⟩ [] ⟨⟨rfl, rfl, rfl, (by repeat (first | exact trivial | exact rfl | (refine And.intro ?_ ?_))), rfl, rfl, rfl, rfl, trivial⟩, ⟨rfl, rfl, trivial⟩, rfl, rfl⟩ (by intro q; rw [hn]; rfl) ?_
    rintro ⟨⟨rest_, k76⟩, hd80, h78⟩ _ A36 X36 R36
    replace hd80 : rest_ = x61.slots.drop k76 := hd80
    rcases rest_ with _ | ⟨x82, rest79⟩
    ·have hlt84 := restNil hd80
     replace h78 := (qcref1_SameWorld_l4.eq_1 _ _ _ _).symm.trans h78
     refine gos hn ?_
     refine COk.seqQ fun _ _ X37 _ => ?_
     refine goc hn ?_
     refine bselF hlt84 ?_
     refine goe hn ?_
     refine X37 _ _ _ ?_
     refine X36 _ _ _ ?_
     refine E35 _ _ ?_
     refine A34 _ _ ?_
     obtain rfl := Option.some.inj h78
     exact jn ⟨_, rfl⟩ []
    ·obtain ⟨hx83, hd2, hlt84⟩ := restCons hd80
     replace h78 := (qcref1_SameWorld_l4.eq_2 _ _ _ _ _ _).symm.trans h78
     refine gos hn ?_
     refine COk.seqQ fun _ A38 _ _ => ?_
     refine goc hn ?_
     refine bselT hlt84 ?_
     refine gok hn ?_
     refine A38 _ _ ?_
     refine COk.seqQ fun _ A39 _ R39 => ?_
     refine COk.blkQ fun _ A40 _ _ R40 => ?_
     refine gos hn ?_
     refine COk.seqQ fun _ A41 _ _ => ?_
     refine god hn (by kernel_rfl) ?_
     refine idxK hx83 ?_
     obtain ⟨x85, hx86, h78⟩ := bindM h78
     refine idxM hx86 ?_
     obtain ⟨x87, hx88, h78⟩ := bindM h78
     refine idxM hx88 ?_
     refine A41 _ _ ?_
     refine goc hn ?_
     refine bselM h78 (fun hb89 h78 => ?_) (fun hb89 h78 => ?_)
     ·refine kp [] [] ?_
      refine gos hn ?_
      refine got hn ?_
      refine R40 _ _ ?_
      refine R39 _ _ ?_
      refine R36 _ _ ?_
      refine R35 _ _ ?_
      refine R34 _ _ ?_
      refine R30 _ _ ?_
      refine R29 _ _ ?_
      refine R26 _ _ ?_
      refine R25 _ _ ?_
      refine R24 _ _ ?_
      refine R23 _ _ ?_
      obtain rfl := Option.some.inj h78
      obtain rfl := Option.some.inj h57
      obtain rfl := Option.some.inj h
      exact ⟨[], _, fm⟩
     refine gok hn ?_
     refine A40 _ _ ?_
     refine A39 _ _ ?_
     refine kp [(3, _), (11, _), (12, _), (128, _), (129, _), (130, _), (159, _), (160, _)] [(3, _), (12, _)] ?_
     refine gor hn ?_
     refine Or.inl (And.intro (inrK hx83 hl75) ?_)
     refine A36 _ _ ?_
     exact jn ⟨(rest79, k76 + 1), hd2, h78⟩ [] (by show rest79.length < rest79.length + 1; omega)
   rintro ⟨⟨⟩, rfl⟩
   refine A30 _ _ ?_
   refine A29 _ _ ?_
   refine gor hn ?_
   refine Or.inl (And.intro (inrK hx62 hl54) ?_)
   refine A26 _ _ ?_
   exact jn ⟨(rest58, k55 + 1), hd2, h57⟩ [] (by show rest58.length < rest58.length + 1; omega)
 rintro ⟨⟨⟩, rfl⟩
 refine A23 _ _ ?_
 refine gos hn ?_
 refine got hn ?_
 obtain rfl := Option.some.inj h
 exact ⟨[], _, fm⟩

/- qclaw5.num -/
set_option maxRecDepth 100000 in
set_option maxHeartbeats 8000000 in
theorem qclaw5_num_ok (N : Nat) (a0 : Int) (r : V) (h : qclaw5_num N a0 = some r) : Spec Try.prog 50 [] [.int a0] (.agg (eV r)) [] [] := by
 refine Spec.of tabOk Try.func50 rfl Try.ntmps50 (by kernel_rfl) rfl rfl rfl fun Γ hn => ?_
 unfold qclaw5_num at h
 refine gos hn ?_
 refine gos hn ?_
 refine got hn ?_
 obtain rfl := Option.some.inj h
 exact ⟨[], _, fm⟩

/- qclaw5.alive -/
set_option maxRecDepth 100000 in
set_option maxHeartbeats 8000000 in
theorem qclaw5_alive_ok (N : Nat) (r : Bool) (h : qclaw5_alive N  = some r) : Spec Try.prog 19 [] [] (.bool r) [] [] := by
 refine Spec.of tabOk Try.func19 rfl Try.ntmps19 (by kernel_rfl) rfl rfl rfl fun Γ hn => ?_
 unfold qclaw5_alive at h
 refine gos hn ?_
 refine gos hn ?_
 obtain ⟨r1, hr2, h⟩ := bindM h
 show CallOk Try.prog _ _ _ _
 refine cA (qcref1_New_ok N  r1 hr2) ?_
 obtain ⟨r3, hr4, h⟩ := bindM h
 show CallOk Try.prog _ _ _ _
 refine cA (qclaw5_num_ok N (2 : Int) r3 hr4) ?_
 obtain ⟨r5, hr6, h⟩ := bindM h
 show CallOk Try.prog _ _ _ _
 refine cA (qclaw5_num_ok N (3 : Int) r5 hr6) ?_
 refine Exists.intro (List.map eV [r5]) (And.intro (by repeat (first | exact trivial | exact rfl | (refine And.intro ?_ ?_))) ?_)
 obtain ⟨r7, hr8, h⟩ := bindM h
 show CallOk Try.prog _ _ _ _
 refine cF (run_Plain_ok N r1 (⟨r3, (⟨#[43]⟩ : ByteArray), [r5]⟩ : TCall) (5 : Int) r7 hr8) ?_
 refine gos hn ?_
 obtain ⟨r9, hr10, h⟩ := bindM h
 show CallOk Try.prog _ _ _ _
 refine cA (qcref1_New_ok N  r9 hr10) ?_
 obtain ⟨r11, hr12, h⟩ := bindM h
 show CallOk Try.prog _ _ _ _
 refine cA (qclaw5_num_ok N (2 : Int) r11 hr12) ?_
 obtain ⟨r13, hr14, h⟩ := bindM h
 show CallOk Try.prog _ _ _ _
 refine cA (run_Plain_ok N r9 (⟨r11, (⟨#[110, 111, 112, 101]⟩ : ByteArray), []⟩ : TCall) (5 : Int) r13 hr14) ?_
 refine kp [(1, _), (2, _), (4, _)] [(1, _), (2, _), (4, _)] ?_
 refine gos hn ?_
 obtain ⟨r15, hr16, h⟩ := bindM h
 show CallOk Try.prog _ _ _ _
 refine cA (run_None_ok N (0 : Int) (0 : Int) r15 hr16) ?_
 refine COk.seqQ fun _ A0 _ _ => ?_
 obtain ⟨o19, h18, h⟩ := bindM h
 refine COk.joinR (ι := { s // o19 = s }) (fun s => [(0, .bool s.1)]) (fun s => []) (fun _ A1 _ _ => ?_) (by intro s; rw [hn]; rfl) ?_
 ·refine COk.sub (ts2 := [(1, .ptr 1 0), (2, .ptr 2 0), (4, .ptr 4 0), (6, .bool r15.2)]) (os2 := [(1, .box (eWd r7.1) 25), (2, .box (eTRan r7.2) 34), (4, .box (eTRan r13.2) 34)]) [] ⟨⟨rfl, rfl, rfl, rfl, trivial⟩, ⟨rfl, rfl, rfl, trivial⟩, rfl, rfl⟩ (by rw [hn]; rfl) ?_
  refine god hn (by kernel_rfl) ?_
  obtain ⟨r20, hr21, h18⟩ := bindM h18
  show CallOk Try.prog _ _ _ _
  refine cA (qclaw5_num_ok N (5 : Int) r20 hr21) ?_
  refine bselM h18 (fun hb22 h18 => ?_) (fun hb22 h18 => ?_)
  ·refine bselT hb22 ?_
   refine bselT hb22 ?_
   refine lenM (fun hl23 => ?_)
   refine bselT hb22 ?_
   refine bselT hb22 ?_
   refine bselM h18 (fun hb24 h18 => ?_) (fun hb24 h18 => ?_)
   ·refine bselT hb24 ?_
    refine bselT hb24 ?_
    refine bselT hb24 ?_
    refine bselM h18 (fun hb25 h18 => ?_) (fun hb25 h18 => ?_)
    ·refine bselT hb25 ?_
     refine bselT hb25 ?_
     refine bselM h18 (fun hb26 h18 => ?_) (fun hb26 h18 => ?_)
     ·refine bselT hb26 ?_
      refine bselT hb26 ?_
      obtain ⟨r27, hr28, h18⟩ := bindM h18
      show CallOk Try.prog _ _ _ _
      refine cA (run_Wrong_ok N r7.1 (⟨(⟨(0 : Int), (0 : Int)⟩ : V), ByteArray.empty, []⟩ : TCall) (0 : Int) r27 hr28) ?_
      refine bselT hb26 ?_
      refine bselT hb26 ?_
      refine A1 _ _ ?_
      obtain rfl := Option.some.inj h18
      exact jn ⟨_, rfl⟩ []
     refine bselF hb26 ?_
     refine bselF hb26 ?_
     refine bselF hb26 ?_
     refine bselF hb26 ?_
     refine A1 _ _ ?_
     obtain rfl := Option.some.inj h18
     exact jn ⟨_, rfl⟩ []
    refine bselF hb25 ?_
    refine bselF hb25 ?_
    refine A1 _ _ ?_
    obtain rfl := Option.some.inj h18
    exact jn ⟨_, rfl⟩ []
   refine bselF hb24 ?_
   refine bselF hb24 ?_
   refine bselF hb24 ?_
   refine A1 _ _ ?_
   obtain rfl := Option.some.inj h18
   exact jn ⟨_, rfl⟩ []
  refine bselF hb22 ?_
  refine bselF hb22 ?_
  refine bselF hb22 ?_
  refine bselF hb22 ?_
  refine A1 _ _ ?_
  obtain rfl := Option.some.inj h18
  exact jn ⟨_, rfl⟩ []
 rintro ⟨v17, hv_⟩
 replace hv_ := hv_.symm
 subst hv_
 refine A0 _ _ ?_
 refine got hn ?_
 obtain rfl := Option.some.inj h
 exact ⟨[], _, fm⟩

/- qclaw5.RunFuel -/
set_option maxRecDepth 100000 in
set_option maxHeartbeats 8000000 in
theorem qclaw5_RunFuel_ok (N : Nat) (a0 : Wd) (a1 : TCall) (a2 : Int) (a3 : Int) (r : Bool) (h : qclaw5_RunFuel N a0 a1 a2 a3 = some r) : Spec Try.prog 4 [] [.agg (eWd a0), .agg (eTCall a1), .int a2, .int a3] (.bool r) [] [] := by
 refine Spec.of tabOk Try.func4 rfl Try.ntmps4 (by kernel_rfl) rfl rfl rfl fun Γ hn => ?_
 unfold qclaw5_RunFuel at h
 refine gos hn ?_
 refine COk.seqQ fun _ A0 _ R0 => ?_
 refine gos hn ?_
 obtain ⟨r1, hr2, h⟩ := bindM h
 show CallOk Try.prog _ _ _ _
 refine cA (qclaw5_alive_ok N  r1 hr2) ?_
 refine goc hn ?_
 refine bselM h (fun hb3 h => ?_) (fun hb3 h => ?_)
 ·refine gos hn ?_
  refine got hn ?_
  refine R0 _ _ ?_
  obtain rfl := Option.some.inj h
  exact ⟨[], _, fm⟩
 refine gok hn ?_
 refine A0 _ _ ?_
 refine COk.seqQ fun _ A1 _ R1 => ?_
 refine COk.seqQ fun _ A2 _ _ => ?_
 obtain ⟨o6, h5, h⟩ := bindM h
 refine COk.joinR (ι := { s // o6 = s }) (fun s => [(2, .int a2), (3, .int a3), (4, .ptr 4 0), (5, .ptr 5 0), (35, .bool s.1)]) (fun s => [(4, .box (eWd a0) 25), (5, .box (eTCall a1) 30)]) (fun _ A3 _ _ => ?_) (by intro s; rw [hn]; rfl) ?_
 ·refine gor hn ?_
  obtain ⟨r7, hr8, h5⟩ := bindM h5
  show CallOk Try.prog _ _ _ _
  refine cA (qcref1_Right_ok N a0 r7 hr8) ?_
  refine bselM h5 (fun hb9 h5 => ?_) (fun hb9 h5 => ?_)
  ·refine bselT hb9 ?_
   refine bselT hb9 ?_
   refine A3 _ _ ?_
   obtain rfl := Option.some.inj h5
   exact jn ⟨_, rfl⟩ []
  refine bselF hb9 ?_
  refine bselF hb9 ?_
  refine bselM h5 (fun hb10 h5 => ?_) (fun hb10 h5 => ?_)
  ·refine bselT hb10 ?_
   refine bselT hb10 ?_
   refine A3 _ _ ?_
   obtain rfl := Option.some.inj h5
   exact jn ⟨_, rfl⟩ []
  refine bselF hb10 ?_
  refine bselF hb10 ?_
  refine bselM h5 (fun hb11 h5 => ?_) (fun hb11 h5 => ?_)
  ·refine bselT hb11 ?_
   refine bselT hb11 ?_
   refine A3 _ _ ?_
   obtain rfl := Option.some.inj h5
   exact jn ⟨_, rfl⟩ []
  refine bselF hb11 ?_
  refine bselF hb11 ?_
  refine bselM h5 (fun hb12 h5 => ?_) (fun hb12 h5 => ?_)
  ·refine bselT hb12 ?_
   refine bselT hb12 ?_
   refine bselT hb12 ?_
   refine bselT hb12 ?_
   refine A3 _ _ ?_
   obtain rfl := Option.some.inj h5
   exact jn ⟨_, rfl⟩ []
  refine bselF hb12 ?_
  refine bselF hb12 ?_
  refine Or.inr ?_
  refine bselF hb12 ?_
  refine bselF hb12 ?_
  refine A3 _ _ ?_
  obtain rfl := Option.some.inj h5
  exact jn ⟨_, rfl⟩ []
 rintro ⟨v4, hv_⟩
 replace hv_ := hv_.symm
 subst hv_
 refine A2 _ _ ?_
 refine goc hn ?_
 refine bselM h (fun hb13 h => ?_) (fun hb13 h => ?_)
 ·refine gos hn ?_
  refine got hn ?_
  refine R1 _ _ ?_
  obtain rfl := Option.some.inj h
  exact ⟨[], _, fm⟩
 refine gok hn ?_
 refine A1 _ _ ?_
 refine gos hn ?_
 obtain ⟨r14, hr15, h⟩ := bindM h
 show CallOk Try.prog _ _ _ _
 refine cA (run_Plain_ok N a0 a1 a2 r14 hr15) ?_
 refine COk.seqQ fun _ A4 _ R4 => ?_
 refine gos hn ?_
 refine goc hn ?_
 refine bselM h (fun hb16 h => ?_) (fun hb16 h => ?_)
 ·refine kp [] [] ?_
  refine gos hn ?_
  refine got hn ?_
  refine R4 _ _ ?_
  obtain rfl := Option.some.inj h
  exact ⟨[], _, fm⟩
 refine gok hn ?_
 refine A4 _ _ ?_
 refine kp [(2, _), (3, _), (4, _), (5, _), (9, _), (10, _)] [(4, _), (5, _), (9, _), (10, _)] ?_
 refine gos hn ?_
 refine Or.inr ?_
 obtain ⟨r17, hr18, h⟩ := bindM h
 show CallOk Try.prog _ _ _ _
 refine cA (run_Plain_ok N a0 a1 (wr (a2 + a3)) r17 hr18) ?_
 refine COk.seqQ fun _ A5 _ R5 => ?_
 refine COk.seqQ fun _ A6 _ _ => ?_
 obtain ⟨o21, h20, h⟩ := bindM h
 refine COk.joinR (ι := { s // o21 = s }) (fun s => [(4, .ptr 4 0), (5, .ptr 5 0), (9, .ptr 9 0), (10, .ptr 10 0), (11, .ptr 11 0), (12, .ptr 12 0), (74, .bool s.1)]) (fun s => [(4, .box (eWd a0) 25), (5, .box (eTCall a1) 30), (9, .box (eWd r14.1) 25), (10, .box (eTRan r14.2) 34), (11, .box (eWd r17.1) 25), (12, .box (eTRan r17.2) 34)]) (fun _ A7 _ _ => ?_) (by intro s; rw [hn]; rfl) ?_
 ·refine kp [(2, _), (4, _), (5, _), (9, _), (10, _), (11, _), (12, _)] [(4, _), (5, _), (9, _), (10, _), (11, _), (12, _)] ?_
  refine gor hn ?_
  refine bselM h20 (fun hb22 h20 => ?_) (fun hb22 h20 => ?_)
  ·refine bselT hb22 ?_
   refine bselT hb22 ?_
   refine bselT hb22 ?_
   refine bselT hb22 ?_
   refine A7 _ _ ?_
   obtain rfl := Option.some.inj h20
   exact jn ⟨_, rfl⟩ []
  refine bselF hb22 ?_
  refine bselF hb22 ?_
  refine bselF hb22 ?_
  refine bselF hb22 ?_
  refine bselM h20 (fun hb23 h20 => ?_) (fun hb23 h20 => ?_)
  ·refine bselT hb23 ?_
   refine bselT hb23 ?_
   refine bselT hb23 ?_
   refine A7 _ _ ?_
   obtain rfl := Option.some.inj h20
   exact jn ⟨_, rfl⟩ []
  refine bselF hb23 ?_
  refine bselF hb23 ?_
  refine bselF hb23 ?_
  refine bselM h20 (fun hb24 h20 => ?_) (fun hb24 h20 => ?_)
  ·refine bselT hb24 ?_
   refine bselT hb24 ?_
   refine bselT hb24 ?_
   refine bselT hb24 ?_
   refine A7 _ _ ?_
   obtain rfl := Option.some.inj h20
   exact jn ⟨_, rfl⟩ []
  refine bselF hb24 ?_
  refine bselF hb24 ?_
  obtain ⟨r25, hr26, h20⟩ := bindM h20
  show CallOk Try.prog _ _ _ _
  refine cA (qcref1_SameWorld_ok N r14.1 r17.1 r25 hr26) ?_
  refine bselF hb24 ?_
  refine bselF hb24 ?_
  refine A7 _ _ ?_
  obtain rfl := Option.some.inj h20
  exact jn ⟨_, rfl⟩ []
 rintro ⟨v19, hv_⟩
 replace hv_ := hv_.symm
 subst hv_
 refine A6 _ _ ?_
 refine goc hn ?_
 refine bselM h (fun hb27 h => ?_) (fun hb27 h => ?_)
 ·refine gos hn ?_
  refine got hn ?_
  refine R5 _ _ ?_
  obtain rfl := Option.some.inj h
  exact ⟨[], _, fm⟩
 refine gok hn ?_
 refine A5 _ _ ?_
 refine gos hn ?_
 obtain ⟨r28, hr29, h⟩ := bindM h
 show CallOk Try.prog _ _ _ _
 refine cA (run_Plain_ok N a0 a1 r14.2.sends r28 hr29) ?_
 refine COk.seqQ fun _ A8 _ R8 => ?_
 refine COk.seqQ fun _ A9 _ _ => ?_
 obtain ⟨o32, h31, h⟩ := bindM h
 refine COk.joinR (ι := { s // o32 = s }) (fun s => [(4, .ptr 4 0), (5, .ptr 5 0), (10, .ptr 10 0), (12, .ptr 12 0), (91, .bool s.1)]) (fun s => [(4, .box (eWd a0) 25), (5, .box (eTCall a1) 30), (10, .box (eTRan r14.2) 34), (12, .box (eTRan r28.2) 34)]) (fun _ A10 _ _ => ?_) (by intro s; rw [hn]; rfl) ?_
 ·refine gor hn ?_
  refine bselM h31 (fun hb33 h31 => ?_) (fun hb33 h31 => ?_)
  ·refine bselT hb33 ?_
   refine bselT hb33 ?_
   refine bselT hb33 ?_
   refine bselT hb33 ?_
   refine A10 _ _ ?_
   obtain rfl := Option.some.inj h31
   exact jn ⟨_, rfl⟩ []
  refine bselF hb33 ?_
  refine bselF hb33 ?_
  obtain ⟨r34, hr35, h31⟩ := bindM h31
  show CallOk Try.prog _ _ _ _
  refine cA (qcref1_SameWorld_ok N r14.1 r28.1 r34 hr35) ?_
  refine bselF hb33 ?_
  refine bselF hb33 ?_
  refine A10 _ _ ?_
  obtain rfl := Option.some.inj h31
  exact jn ⟨_, rfl⟩ []
 rintro ⟨v30, hv_⟩
 replace hv_ := hv_.symm
 subst hv_
 refine A9 _ _ ?_
 refine goc hn ?_
 refine bselM h (fun hb36 h => ?_) (fun hb36 h => ?_)
 ·refine gos hn ?_
  refine got hn ?_
  refine R8 _ _ ?_
  obtain rfl := Option.some.inj h
  exact ⟨[], _, fm⟩
 refine gok hn ?_
 refine A8 _ _ ?_
 refine gos hn ?_
 refine Or.inr ?_
 obtain ⟨r37, hr38, h⟩ := bindM h
 show CallOk Try.prog _ _ _ _
 refine cA (run_Plain_ok N a0 a1 (wr (r14.2.sends - (1 : Int))) r37 hr38) ?_
 refine gos hn ?_
 refine got hn ?_
 obtain rfl := Option.some.inj h
 exact ⟨[], _, fm⟩
end Go.Proofs.Ytkecefjmcimemaa
