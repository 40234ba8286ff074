/- Walks after the mirrors. Printed by mir.py. -/
import Derived.Test.YtkecefjmcimemaaWk2
namespace Go.Proofs.Ytkecefjmcimemaa
open Go.RowKit
set_option linter.unusedVariables false
/- run.Plain$1 -/
set_option maxRecDepth 100000 in
set_option maxHeartbeats 8000000 in
theorem run_Plain_1_ok (N : Nat) (a0 : St) (a1 : Int) (a2 : ByteArray) (b0 : Wd) (r : (Int × Int)) (h : run_Plain_1 N a0 a1 a2 b0 = some r) : Spec Try.prog 42 [] [.agg (eSt a0), .int a1, .str a2, .fp (eWd b0)] (.tup [.int r.1, .int r.2]) [] [] := by
 refine Spec.of tabOk Try.func42 rfl Try.ntmps42 (by kernel_rfl) rfl rfl rfl fun Γ hn => ?_
 unfold run_Plain_1 at h
 refine gos hn ?_
 refine gos hn ?_
 obtain ⟨r1, hr2, h⟩ := bindM h
 show CallOk Try.prog _ _ _ _
 refine cA (class_Find_ok N b0 a1 a2 r1 hr2) ?_
 refine got hn ?_
 obtain rfl := Option.some.inj h
 exact ⟨[], _, fm⟩

/- run.None -/
set_option maxRecDepth 100000 in
set_option maxHeartbeats 8000000 in
theorem run_None_ok (N : Nat) (a0 : Int) (a1 : Int) (r : (Fs × Bool)) (h : run_None N a0 a1 = some r) : Spec Try.prog 44 [] [.int a0, .int a1] (.tup [.agg (eFs r.1), .bool r.2]) [] [] := by
 refine Spec.of tabOk Try.func44 rfl Try.ntmps44 (by kernel_rfl) rfl rfl rfl fun Γ hn => ?_
 unfold run_None at h
 refine gos hn ?_
 refine gos hn ?_
 refine got hn ?_
 obtain rfl := Option.some.inj h
 exact ⟨[], _, fm⟩

/- run.Plain -/
set_option maxRecDepth 100000 in
set_option maxHeartbeats 8000000 in
theorem run_Plain_ok (N : Nat) (a0 : Wd) (a1 : TCall) (a2 : Int) (r : (Wd × TRan)) (h : run_Plain N a0 a1 a2 = some r) : Spec Try.prog 14 [] [.agg (eWd a0), .agg (eTCall a1), .int a2] (.tup [.agg (eWd r.1), .agg (eTRan r.2)]) [] [] := by
 refine Spec.of tabOk Try.func14 rfl Try.ntmps14 (by kernel_rfl) rfl rfl rfl fun Γ hn => ?_
 unfold run_Plain at h
 refine gos hn ?_
 refine COk.gh (Gh.fzBox 3 3 rfl rfl rfl) (fun _ => ?_)
 refine kp [(2, _), (3, _), (4, _), (6, _), (7, _)] [(4, _), (6, _), (7, _)] ?_
 refine gos hn ?_
 obtain ⟨r1, hr2, h⟩ := bindM h
 show CallOk Try.prog _ _ _ _
 refine cA (run_With_c1_0_ok N a0 a1 a2 (fun x0_ x1_ x2_ => run_Plain_1 N x0_ x1_ x2_ a0) (fun x0_ x1_ => run_None N x0_ x1_) (fun x0_ x1_ x2_ y_ hy_ => run_Plain_1_ok N x0_ x1_ x2_ a0 y_ hy_) (fun x0_ x1_ y_ hy_ => run_None_ok N x0_ x1_ y_ hy_) r1 hr2) ?_
 refine got hn ?_
 obtain rfl := Option.some.inj h
 exact ⟨[], _, fm⟩

/- qcref5.WrongCall -/
set_option maxRecDepth 100000 in
set_option maxHeartbeats 8000000 in
theorem qcref5_WrongCall_ok (N : Nat) (a0 : Wd) (a1 : TCall) (a2 : Int) (r : Int) (h : qcref5_WrongCall N a0 a1 a2 = some r) : Spec Try.prog 17 [] [.agg (eWd a0), .agg (eTCall a1), .int a2] (.int r) [] [] := by
 refine Spec.of tabOk Try.func17 rfl Try.ntmps17 (by kernel_rfl) rfl rfl rfl fun Γ hn => ?_
 unfold qcref5_WrongCall at h
 refine gos hn ?_
 refine COk.seqQ fun _ A0 _ R0 => ?_
 refine gos hn ?_
 obtain ⟨r1, hr2, h⟩ := bindM h
 show CallOk Try.prog _ _ _ _
 refine cA (qcref1_Name_ok N a1.name r1 hr2) ?_
 refine goc hn ?_
 refine bselM h (fun hb3 h => ?_) (fun hb3 h => ?_)
 ·refine gos hn ?_
  refine got hn ?_
  refine R0 _ _ ?_
  obtain rfl := Option.some.inj h
  exact ⟨[], _, fm⟩
 refine gok hn ?_
 refine A0 _ _ ?_
 refine COk.seqQ fun _ A1 _ R1 => ?_
 refine gos hn ?_
 refine lenM (fun hl4 => ?_)
 refine goc hn ?_
 refine bselM h (fun hb5 h => ?_) (fun hb5 h => ?_)
 ·refine gos hn ?_
  refine got hn ?_
  refine R1 _ _ ?_
  obtain rfl := Option.some.inj h
  exact ⟨[], _, fm⟩
 refine gok hn ?_
 refine A1 _ _ ?_
 refine COk.seqQ fun _ A2 _ R2 => ?_
 refine COk.seqQ fun _ A3 _ _ => ?_
 obtain ⟨o8, h7, h⟩ := bindM h
 refine COk.joinR (ι := { s // o8 = s }) (fun s => [(3, .ptr 3 0), (4, .ptr 4 0), (24, .bool s.1)]) (fun s => [(3, .box (eWd a0) 25), (4, .box (eTCall a1) 30)]) (fun _ A4 _ _ => ?_) (by intro s; rw [hn]; rfl) ?_
 ·refine gor hn ?_
  refine bselM h7 (fun hb9 h7 => ?_) (fun hb9 h7 => ?_)
  ·refine bselT hb9 ?_
   refine bselT hb9 ?_
   refine A4 _ _ ?_
   obtain rfl := Option.some.inj h7
   exact jn ⟨_, rfl⟩ []
  refine bselF hb9 ?_
  refine bselF hb9 ?_
  refine A4 _ _ ?_
  obtain rfl := Option.some.inj h7
  exact jn ⟨_, rfl⟩ []
 rintro ⟨v6, hv_⟩
 replace hv_ := hv_.symm
 subst hv_
 refine A3 _ _ ?_
 refine goc hn ?_
 refine bselM h (fun hb10 h => ?_) (fun hb10 h => ?_)
 ·refine gos hn ?_
  refine got hn ?_
  refine R2 _ _ ?_
  obtain rfl := Option.some.inj h
  exact ⟨[], _, fm⟩
 refine gok hn ?_
 refine A2 _ _ ?_
 refine COk.seqQ fun _ A5 _ R5 => ?_
 refine gos hn ?_
 refine lenM (fun hl11 => ?_)
 obtain ⟨r12, hr13, h⟩ := bindM h
 show CallOk Try.prog _ _ _ _
 refine cA (qcref1_Wrong_ok N a1.self_ (a0.heap.length : Int) r12 hr13) ?_
 refine gos hn ?_
 refine goc hn ?_
 refine bselM h (fun hb14 h => ?_) (fun hb14 h => ?_)
 ·refine gos hn ?_
  refine got hn ?_
  refine R5 _ _ ?_
  obtain rfl := Option.some.inj h
  exact ⟨[], _, fm⟩
 refine gok hn ?_
 refine A5 _ _ ?_
 refine COk.seqQ fun _ A6 _ R6 => ?_
 refine gos hn ?_
 refine lenM (fun hl15 => ?_)
 obtain ⟨o17, h18, h⟩ := bindM h
 refine COk.joinR (ι := { s // o17 = Ctl.next s }) (fun s => []) (fun s => []) (fun _ A7 _ R7 => ?_) (by intro s; rw [hn]; rfl) ?_
 ·refine COk.blkQ fun _ _ E8 _ R8 => ?_
  refine COk.loopQ (ι := { q : ((List V) × Nat) // q.1 = a1.args.drop q.2 ∧ qcref5_WrongCall_l1 N a0 q.1 q.2 = some o17 }) (fun q => [(3, .ptr 3 0), (35, .sl 2 (List.map eV a1.args)), (36, .int (a1.args.length : Int)), (37, .int (q.1.2 : Int))]) (fun q => [(3, .box (eWd a0) 25)]) (fun q => q.1.1.length) ⟨(a1.args, 0), rfl, h18⟩ [] ⟨⟨rfl, (by repeat (first | exact trivial | exact rfl | (refine And.intro ?_ ?_))), rfl, rfl, trivial⟩, ⟨rfl, trivial⟩, rfl, rfl⟩ (by intro q; rw [hn]; rfl) ?_
  rintro ⟨⟨rest_, k16⟩, hd20, h18⟩ _ A9 X9 R9
  replace hd20 : rest_ = a1.args.drop k16 := hd20
  rcases rest_ with _ | ⟨x22, rest19⟩
  ·have hlt24 := restNil hd20
   replace h18 := (qcref5_WrongCall_l1.eq_1 _ _ _).symm.trans h18
   refine gos hn ?_
   refine COk.seqQ fun _ _ X10 _ => ?_
   refine goc hn ?_
   refine bselF hlt24 ?_
   refine goe hn ?_
   refine X10 _ _ _ ?_
   refine X9 _ _ _ ?_
   refine E8 _ _ ?_
   refine A7 _ _ ?_
   obtain rfl := Option.some.inj h18
   exact jn ⟨_, rfl⟩ []
  ·obtain ⟨hx23, hd2, hlt24⟩ := restCons hd20
   replace h18 := (qcref5_WrongCall_l1.eq_2 _ _ _ _ _).symm.trans h18
   refine gos hn ?_
   refine COk.seqQ fun _ A11 _ _ => ?_
   refine goc hn ?_
   refine bselT hlt24 ?_
   refine gok hn ?_
   refine A11 _ _ ?_
   refine COk.seqQ fun _ A12 _ R12 => ?_
   refine COk.blkQ fun _ A13 _ _ R13 => ?_
   refine gos hn ?_
   refine idxK hx23 ?_
   refine gos hn ?_
   refine lenM (fun hl25 => ?_)
   obtain ⟨r26, hr27, h18⟩ := bindM h18
   show CallOk Try.prog _ _ _ _
   refine cA (qcref1_Wrong_ok N x22 (a0.heap.length : Int) r26 hr27) ?_
   refine gos hn ?_
   refine goc hn ?_
   refine bselM h18 (fun hb28 h18 => ?_) (fun hb28 h18 => ?_)
   ·refine gos hn ?_
    refine got hn ?_
    refine R13 _ _ ?_
    refine R12 _ _ ?_
    refine R9 _ _ ?_
    refine R8 _ _ ?_
    refine R7 _ _ ?_
    refine R6 _ _ ?_
    obtain rfl := Option.some.inj h18
    obtain rfl := Option.some.inj h
    exact ⟨[], _, fm⟩
   refine gok hn ?_
   refine A13 _ _ ?_
   refine A12 _ _ ?_
   refine gor hn ?_
   refine Or.inl (And.intro (inrK hx23 hl15) ?_)
   refine A9 _ _ ?_
   exact jn ⟨(rest19, k16 + 1), hd2, h18⟩ [] (by show rest19.length < rest19.length + 1; omega)
 rintro ⟨⟨⟩, rfl⟩
 refine A6 _ _ ?_
 refine gos hn ?_
 refine got hn ?_
 obtain rfl := Option.some.inj h
 exact ⟨[], _, fm⟩

/- qcref1.Class -/
set_option maxRecDepth 100000 in
set_option maxHeartbeats 8000000 in
theorem qcref1_Class_ok (N : Nat) (a0 : (List Ob)) (a1 : V) (r : Int) (h : qcref1_Class N a0 a1 = some r) : Spec Try.prog 45 [] [.sl 2 (List.map eOb a0), .agg (eV a1)] (.int r) [] [] := by
 refine Spec.of tabOk Try.func45 rfl Try.ntmps45 (by kernel_rfl) rfl rfl rfl fun Γ hn => ?_
 unfold qcref1_Class at h
 refine gos hn ?_
 refine COk.seqQ fun _ A0 _ R0 => ?_
 refine COk.seqQ fun _ A1 _ _ => ?_
 obtain ⟨o3, h2, h⟩ := bindM h
 refine COk.joinR (ι := { s // o3 = s }) (fun s => [(0, .sl 2 (List.map eOb a0)), (3, .ptr 3 0), (19, .bool s.1)]) (fun s => [(3, .box (eV a1) 27)]) (fun _ A2 _ _ => ?_) (by intro s; rw [hn]; rfl) ?_
 ·refine gor hn ?_
  refine bselM h2 (fun hb4 h2 => ?_) (fun hb4 h2 => ?_)
  ·refine bselT hb4 ?_
   refine bselT hb4 ?_
   refine bselT hb4 ?_
   refine bselM h2 (fun hb5 h2 => ?_) (fun hb5 h2 => ?_)
   ·refine bselT hb5 ?_
    refine bselT hb5 ?_
    refine bselT hb5 ?_
    refine lenM (fun hl6 => ?_)
    refine bselT hb5 ?_
    refine bselT hb5 ?_
    refine A2 _ _ ?_
    obtain rfl := Option.some.inj h2
    exact jn ⟨_, rfl⟩ []
   refine bselF hb5 ?_
   refine bselF hb5 ?_
   refine bselF hb5 ?_
   refine bselF hb5 ?_
   refine bselF hb5 ?_
   refine A2 _ _ ?_
   obtain rfl := Option.some.inj h2
   exact jn ⟨_, rfl⟩ []
  refine bselF hb4 ?_
  refine bselF hb4 ?_
  refine bselF hb4 ?_
  refine A2 _ _ ?_
  obtain rfl := Option.some.inj h2
  exact jn ⟨_, rfl⟩ []
 rintro ⟨v1, hv_⟩
 replace hv_ := hv_.symm
 subst hv_
 refine A1 _ _ ?_
 refine goc hn ?_
 refine bselM h (fun hb7 h => ?_) (fun hb7 h => ?_)
 ·refine gos hn ?_
  obtain ⟨x8, hx9, h⟩ := bindM h
  refine idxM hx9 ?_
  refine got hn ?_
  refine R0 _ _ ?_
  obtain rfl := Option.some.inj h
  exact ⟨[], _, fm⟩
 refine gok hn ?_
 refine A0 _ _ ?_
 refine COk.seqQ fun _ A3 _ R3 => ?_
 refine COk.seqQ fun _ A4 _ _ => ?_
 obtain ⟨o12, h11, h⟩ := bindM h
 refine COk.joinR (ι := { s // o12 = s }) (fun s => [(3, .ptr 3 0), (33, .bool s.1)]) (fun s => [(3, .box (eV a1) 27)]) (fun _ A5 _ _ => ?_) (by intro s; rw [hn]; rfl) ?_
 ·refine gor hn ?_
  refine bselM h11 (fun hb13 h11 => ?_) (fun hb13 h11 => ?_)
  ·refine bselT hb13 ?_
   refine bselT hb13 ?_
   refine bselT hb13 ?_
   refine A5 _ _ ?_
   obtain rfl := Option.some.inj h11
   exact jn ⟨_, rfl⟩ []
  refine bselF hb13 ?_
  refine bselF hb13 ?_
  refine bselF hb13 ?_
  refine A5 _ _ ?_
  obtain rfl := Option.some.inj h11
  exact jn ⟨_, rfl⟩ []
 rintro ⟨v10, hv_⟩
 replace hv_ := hv_.symm
 subst hv_
 refine A4 _ _ ?_
 refine goc hn ?_
 refine bselM h (fun hb14 h => ?_) (fun hb14 h => ?_)
 ·refine gos hn ?_
  refine got hn ?_
  refine R3 _ _ ?_
  obtain rfl := Option.some.inj h
  exact ⟨[], _, fm⟩
 refine gok hn ?_
 refine A3 _ _ ?_
 refine gos hn ?_
 refine Exists.intro (List.map eInt [(1 : Int), (2 : Int), (2 : Int), (3 : Int)]) (And.intro (by repeat (first | exact trivial | exact rfl | (refine And.intro ?_ ?_))) ?_)
 obtain ⟨x15, hx16, h⟩ := bindM h
 refine ownM hx16 ?_
 refine ldM (nthO_some hx16).2 ?_
 refine got hn ?_
 obtain rfl := Option.some.inj h
 exact ⟨[], _, fm⟩

/- qcref1.Find -/
set_option maxRecDepth 100000 in
set_option maxHeartbeats 8000000 in
theorem qcref1_Find_ok (N : Nat) (a0 : Wd) (a1 : Int) (a2 : ByteArray) (r : (Int × Int)) (h : qcref1_Find N a0 a1 a2 = some r) : Spec Try.prog 22 [] [.agg (eWd a0), .int a1, .str a2] (.tup [.int r.1, .int r.2]) [] [] := by
 refine Spec.of tabOk Try.func22 rfl Try.ntmps22 (by kernel_rfl) rfl rfl rfl fun Γ hn => ?_
 unfold qcref1_Find at h
 refine gos hn ?_
 refine COk.seqQ fun _ A0 _ R0 => ?_
 refine gos hn ?_
 obtain ⟨r1, hr2, h⟩ := bindM h
 show CallOk Try.prog _ _ _ _
 refine cA ((qcref1_Ups_ok N a0 a1 r1 hr2).sw 0 14) ?_
 refine lenM (fun hl3 => ?_)
 obtain ⟨o5, h6, h⟩ := bindM h
 refine COk.joinR (ι := { s // o5 = Ctl.next s }) (fun s => []) (fun s => []) (fun _ A1 _ R1 => ?_) (by intro s; rw [hn]; rfl) ?_
 ·refine COk.blkQ fun _ _ E2 _ R2 => ?_
  refine COk.loopQ (ι := { q : ((List Int) × Nat) // q.1 = r1.drop q.2 ∧ qcref1_Find_l1 N a0 a2 r1 q.1 q.2 = some o5 }) (fun q => [(2, .str a2), (3, .ptr 3 0), (14, .own 14), (15, .int (r1.length : Int)), (16, .int (q.1.2 : Int))]) (fun q => [(3, .box (eWd a0) 25), (14, .row 1 (List.map eInt r1) 3)]) (fun q => q.1.1.length) ⟨(r1, 0), rfl, h6⟩ [] ⟨⟨rfl, rfl, rfl, rfl, rfl, trivial⟩, ⟨rfl, rfl, trivial⟩, rfl, rfl⟩ (by intro q; rw [hn]; rfl) ?_
  rintro ⟨⟨rest_, k4⟩, hd8, h6⟩ _ A3 X3 R3
  replace hd8 : rest_ = r1.drop k4 := hd8
  rcases rest_ with _ | ⟨x10, rest7⟩
  ·have hlt12 := restNil hd8
   replace h6 := (qcref1_Find_l1.eq_1 _ _ _ _ _).symm.trans h6
   refine gos hn ?_
   refine COk.seqQ fun _ _ X4 _ => ?_
   refine goc hn ?_
   refine bselF hlt12 ?_
   refine goe hn ?_
   refine X4 _ _ _ ?_
   refine X3 _ _ _ ?_
   refine E2 _ _ ?_
   refine A1 _ _ ?_
   obtain rfl := Option.some.inj h6
   exact jn ⟨_, rfl⟩ []
  ·obtain ⟨hx11, hd2, hlt12⟩ := restCons hd8
   replace h6 := (qcref1_Find_l1.eq_2 _ _ _ _ _ _ _).symm.trans h6
   refine gos hn ?_
   refine COk.seqQ fun _ A5 _ _ => ?_
   refine goc hn ?_
   refine bselT hlt12 ?_
   refine gok hn ?_
   refine A5 _ _ ?_
   refine COk.seqQ fun _ A6 _ R6 => ?_
   refine COk.blkQ fun _ A7 _ _ R7 => ?_
   refine gos hn ?_
   obtain ⟨x13, hx14, h6⟩ := bindM h6
   refine ownM hx14 ?_
   refine ldM (nthO_some hx14).2 ?_
   refine gos hn ?_
   obtain ⟨x15, hx16, h6⟩ := bindM h6
   refine idxM hx16 ?_
   refine lenM (fun hl17 => ?_)
   obtain ⟨o19, h20, h6⟩ := bindM h6
   refine COk.joinR (ι := { s // o19 = Ctl.next s }) (fun s => [(2, .str a2), (3, .ptr 3 0), (14, .own 14), (15, .int (r1.length : Int)), (16, .int (k4 : Int))]) (fun s => [(3, .box (eWd a0) 25), (14, .row 1 (List.map eInt r1) 3)]) (fun _ A8 _ R8 => ?_) (by intro s; rw [hn]; rfl) ?_
   ·refine COk.blkQ fun _ _ E9 _ R9 => ?_
    refine COk.loopQ (ι := { q : ((List Me) × Nat) // q.1 = x15.methods.drop q.2 ∧ qcref1_Find_l2 N a2 x13 q.1 q.2 = some o19 }) (fun q => [(2, .str a2), (3, .ptr 3 0), (9, .int x13), (14, .own 14), (15, .int (r1.length : Int)), (16, .int (k4 : Int)), (25, .sl 5 (List.map eMe x15.methods)), (26, .int (x15.methods.length : Int)), (27, .int (q.1.2 : Int))]) (fun q => [(3, .box (eWd a0) 25), (14, .row 1 (List.map eInt r1) 3)]) (fun q => q.1.1.length) ⟨(x15.methods, 0), rfl, h20⟩ [] ⟨⟨rfl, rfl, rfl, rfl, rfl, rfl, (by repeat (first | exact trivial | exact rfl | (refine And.intro ?_ ?_))), rfl, rfl, trivial⟩, ⟨rfl, rfl, trivial⟩, rfl, rfl⟩ (by intro q; rw [hn]; rfl) ?_
    rintro ⟨⟨rest_, k18⟩, hd22, h20⟩ _ A10 X10 R10
    replace hd22 : rest_ = x15.methods.drop k18 := hd22
    rcases rest_ with _ | ⟨x24, rest21⟩
    ·have hlt26 := restNil hd22
     replace h20 := (qcref1_Find_l2.eq_1 _ _ _ _).symm.trans h20
     refine gos hn ?_
     refine COk.seqQ fun _ _ X11 _ => ?_
     refine goc hn ?_
     refine bselF hlt26 ?_
     refine goe hn ?_
     refine X11 _ _ _ ?_
     refine X10 _ _ _ ?_
     refine E9 _ _ ?_
     refine A8 _ _ ?_
     obtain rfl := Option.some.inj h20
     exact jn ⟨_, rfl⟩ []
    ·obtain ⟨hx25, hd2, hlt26⟩ := restCons hd22
     replace h20 := (qcref1_Find_l2.eq_2 _ _ _ _ _ _).symm.trans h20
     refine gos hn ?_
     refine COk.seqQ fun _ A12 _ _ => ?_
     refine goc hn ?_
     refine bselT hlt26 ?_
     refine gok hn ?_
     refine A12 _ _ ?_
     refine COk.seqQ fun _ A13 _ R13 => ?_
     refine COk.blkQ fun _ A14 _ _ R14 => ?_
     refine gos hn ?_
     refine idxK hx25 ?_
     refine gos hn ?_
     refine goc hn ?_
     refine bselM h20 (fun hb27 h20 => ?_) (fun hb27 h20 => ?_)
     ·refine kp [(9, _), (10, _)] [] ?_
      refine gos hn ?_
      refine got hn ?_
      refine R14 _ _ ?_
      refine R13 _ _ ?_
      refine R10 _ _ ?_
      refine R9 _ _ ?_
      refine R8 _ _ ?_
      refine R7 _ _ ?_
      refine R6 _ _ ?_
      refine R3 _ _ ?_
      refine R2 _ _ ?_
      refine R1 _ _ ?_
      refine R0 _ _ ?_
      obtain rfl := Option.some.inj h20
      obtain rfl := Option.some.inj h6
      obtain rfl := Option.some.inj h
      exact ⟨[], _, fm⟩
     refine gok hn ?_
     refine A14 _ _ ?_
     refine A13 _ _ ?_
     refine kp [(2, _), (3, _), (9, _), (14, _), (15, _), (16, _), (25, _), (26, _), (27, _)] [(3, _), (14, _)] ?_
     refine gor hn ?_
     refine Or.inl (And.intro (inrK hx25 hl17) ?_)
     refine A10 _ _ ?_
     exact jn ⟨(rest21, k18 + 1), hd2, h20⟩ [] (by show rest21.length < rest21.length + 1; omega)
   rintro ⟨⟨⟩, rfl⟩
   refine A7 _ _ ?_
   refine A6 _ _ ?_
   refine gor hn ?_
   refine Or.inl (And.intro (inrK hx11 hl3) ?_)
   refine A3 _ _ ?_
   exact jn ⟨(rest7, k4 + 1), hd2, h6⟩ [] (by show rest7.length < rest7.length + 1; omega)
 rintro ⟨⟨⟩, rfl⟩
 refine A0 _ _ ?_
 refine gos hn ?_
 refine got hn ?_
 obtain rfl := Option.some.inj h
 exact ⟨[], _, fm⟩

/- qcref1.Bool -/
set_option maxRecDepth 100000 in
set_option maxHeartbeats 8000000 in
theorem qcref1_Bool_ok (N : Nat) (a0 : Bool) (r : V) (h : qcref1_Bool N a0 = some r) : Spec Try.prog 109 [] [.bool a0] (.agg (eV r)) [] [] := by
 refine Spec.of tabOk Try.func109 rfl Try.ntmps109 (by kernel_rfl) rfl rfl rfl fun Γ hn => ?_
 unfold qcref1_Bool at h
 refine gos hn ?_
 refine COk.seqQ fun _ A0 _ R0 => ?_
 refine gos hn ?_
 refine goc hn ?_
 refine bselM h (fun hb1 h => ?_) (fun hb1 h => ?_)
 ·refine gos hn ?_
  refine got hn ?_
  refine R0 _ _ ?_
  obtain rfl := Option.some.inj h
  exact ⟨[], _, fm⟩
 refine gok hn ?_
 refine A0 _ _ ?_
 refine gos hn ?_
 refine got hn ?_
 obtain rfl := Option.some.inj h
 exact ⟨[], _, fm⟩

/- qcref1.Prim -/
set_option maxRecDepth 100000 in
set_option maxHeartbeats 8000000 in
theorem qcref1_Prim_ok (N : Nat) (a0 : Int) (a1 : V) (a2 : V) (r : (V × Int)) (h : qcref1_Prim N a0 a1 a2 = some r) : Spec Try.prog 82 [] [.int a0, .agg (eV a1), .agg (eV a2)] (.tup [.agg (eV r.1), .int r.2]) [] [] := by
 refine Spec.of tabOk Try.func82 rfl Try.ntmps82 (by kernel_rfl) rfl rfl rfl fun Γ hn => ?_
 unfold qcref1_Prim at h
 refine gos hn ?_
 refine COk.seqQ fun _ A0 _ R0 => ?_
 refine COk.seqQ fun _ A1 _ _ => ?_
 obtain ⟨o3, h2, h⟩ := bindM h
 refine COk.joinR (ι := { s // o3 = s }) (fun s => [(0, .int a0), (4, .ptr 4 0), (5, .ptr 5 0), (6, .ptr 6 0), (17, .bool s.1)]) (fun s => [(4, .box (eV a1) 27), (5, .box (eV a2) 27), (6, .box [.int (0 : Int), .int (0 : Int)] 27)]) (fun _ A2 _ _ => ?_) (by intro s; rw [hn]; rfl) ?_
 ·refine gor hn ?_
  refine bselM h2 (fun hb4 h2 => ?_) (fun hb4 h2 => ?_)
  ·refine bselT hb4 ?_
   refine bselT hb4 ?_
   refine bselT hb4 ?_
   refine A2 _ _ ?_
   obtain rfl := Option.some.inj h2
   exact jn ⟨_, rfl⟩ []
  refine bselF hb4 ?_
  refine bselF hb4 ?_
  refine bselF hb4 ?_
  refine A2 _ _ ?_
  obtain rfl := Option.some.inj h2
  exact jn ⟨_, rfl⟩ []
 rintro ⟨v1, hv_⟩
 replace hv_ := hv_.symm
 subst hv_
 refine A1 _ _ ?_
 refine goc hn ?_
 refine bselM h (fun hb5 h => ?_) (fun hb5 h => ?_)
 ·refine gos hn ?_
  refine got hn ?_
  refine R0 _ _ ?_
  obtain rfl := Option.some.inj h
  exact ⟨[], _, fm⟩
 refine gok hn ?_
 refine A0 _ _ ?_
 refine gos hn ?_
 refine COk.seqQ fun _ A3 _ R3 => ?_
 refine gos hn ?_
 obtain ⟨o8, h7, h⟩ := bindM h
 refine COk.joinR (ι := { s // o8 = Ctl.next s }) (fun s => [(6, .ptr 6 0), (8, .int s.1)]) (fun s => [(6, .box [.int (0 : Int), .int (0 : Int)] 27)]) (fun _ A4 _ R4 => ?_) (by intro s; rw [hn]; rfl) ?_
 ·refine COk.blkQ fun _ A5 _ _ R5 => ?_
  refine gos hn ?_
  obtain ⟨o11, h10, h7⟩ := bindM h7
  refine COk.joinR (ι := { s // o11 = Ctl.next s }) (fun s => [(6, .ptr 6 0), (8, .int s.1)]) (fun s => [(6, .box [.int (0 : Int), .int (0 : Int)] 27)]) (fun _ A6 _ R6 => ?_) (by intro s; rw [hn]; rfl) ?_
  ·refine goc hn ?_
   refine bselM h10 (fun hb12 h10 => ?_) (fun hb12 h10 => ?_)
   ·refine gor hn ?_
    refine Or.inr ?_
    refine A6 _ _ ?_
    obtain rfl := Option.some.inj h10
    exact jn ⟨_, rfl⟩ []
   refine gos hn ?_
   obtain ⟨o15, h14, h10⟩ := bindM h10
   refine COk.joinR (ι := { s // o15 = Ctl.next s }) (fun s => [(6, .ptr 6 0), (8, .int s.1)]) (fun s => [(6, .box [.int (0 : Int), .int (0 : Int)] 27)]) (fun _ A7 _ R7 => ?_) (by intro s; rw [hn]; rfl) ?_
   ·refine goc hn ?_
    refine bselM h14 (fun hb16 h14 => ?_) (fun hb16 h14 => ?_)
    ·refine gor hn ?_
     refine Or.inr ?_
     refine A7 _ _ ?_
     obtain rfl := Option.some.inj h14
     exact jn ⟨_, rfl⟩ []
    refine gos hn ?_
    refine goc hn ?_
    refine bselM h14 (fun hb17 h14 => ?_) (fun hb17 h14 => ?_)
    ·refine gor hn ?_
     refine Or.inr ?_
     refine A7 _ _ ?_
     obtain rfl := Option.some.inj h14
     exact jn ⟨_, rfl⟩ []
    refine gos hn ?_
    refine goc hn ?_
    refine bselM h14 (fun hb18 h14 => ?_) (fun hb18 h14 => ?_)
    ·refine gos hn ?_
     obtain ⟨r19, hr20, h14⟩ := bindM h14
     show CallOk Try.prog _ _ _ _
     refine cA (qcref1_Bool_ok N (decide (a1.n < a2.n)) r19 hr20) ?_
     refine got hn ?_
     refine R7 _ _ ?_
     refine R6 _ _ ?_
     refine R5 _ _ ?_
     refine R4 _ _ ?_
     refine R3 _ _ ?_
     obtain rfl := Option.some.inj h14
     obtain rfl := Option.some.inj h10
     obtain rfl := Option.some.inj h7
     obtain rfl := Option.some.inj h
     exact ⟨[], _, fm⟩
    refine gos hn ?_
    refine goc hn ?_
    refine bselM h14 (fun hb21 h14 => ?_) (fun hb21 h14 => ?_)
    ·refine kp [(4, _), (5, _), (6, _)] [(4, _), (5, _), (6, _)] ?_
     refine gos hn ?_
     obtain ⟨r22, hr23, h14⟩ := bindM h14
     show CallOk Try.prog _ _ _ _
     refine cA (qcref1_Bool_ok N (decide (a1.n = a2.n)) r22 hr23) ?_
     refine got hn ?_
     refine R7 _ _ ?_
     refine R6 _ _ ?_
     refine R5 _ _ ?_
     refine R4 _ _ ?_
     refine R3 _ _ ?_
     obtain rfl := Option.some.inj h14
     obtain rfl := Option.some.inj h10
     obtain rfl := Option.some.inj h7
     obtain rfl := Option.some.inj h
     exact ⟨[], _, fm⟩
    refine kp [(6, _)] [(6, _)] ?_
    refine gos hn ?_
    refine got hn ?_
    refine R7 _ _ ?_
    refine R6 _ _ ?_
    refine R5 _ _ ?_
    refine R4 _ _ ?_
    refine R3 _ _ ?_
    obtain rfl := Option.some.inj h14
    obtain rfl := Option.some.inj h10
    obtain rfl := Option.some.inj h7
    obtain rfl := Option.some.inj h
    exact ⟨[], _, fm⟩
   rintro ⟨v13, rfl⟩
   refine A6 _ _ ?_
   obtain rfl := Option.some.inj h10
   exact jn ⟨_, rfl⟩ []
  rintro ⟨v9, rfl⟩
  refine A5 _ _ ?_
  refine A4 _ _ ?_
  obtain rfl := Option.some.inj h7
  exact jn ⟨_, rfl⟩ []
 rintro ⟨v6, rfl⟩
 refine A3 _ _ ?_
 refine gos hn ?_
 refine COk.seqQ fun _ A8 _ R8 => ?_
 refine gos hn ?_
 refine goc hn ?_
 refine bselM h (fun hb24 h => ?_) (fun hb24 h => ?_)
 ·refine gos hn ?_
  obtain ⟨hg25, h⟩ := guardM h
  refine quoM hg25 ?_
  refine Or.inr ?_
  refine Or.inr ?_
  refine got hn ?_
  refine R8 _ _ ?_
  obtain rfl := Option.some.inj h
  exact ⟨[], _, fm⟩
 refine gok hn ?_
 refine A8 _ _ ?_
 refine gos hn ?_
 obtain ⟨hg26, h⟩ := guardM h
 refine decM hg26 ?_
 obtain ⟨hg27, h⟩ := guardM h
 refine quoM hg27 ?_
 refine Or.inr ?_
 refine Or.inr ?_
 refine got hn ?_
 obtain rfl := Option.some.inj h
 exact ⟨[], _, fm⟩

/- (*qcref5.R).Enter -/
set_option maxRecDepth 100000 in
set_option maxHeartbeats 8000000 in
theorem qcref5_R_Enter_f_ok (N : Nat) (gR : (Nat → TR → Int → Me → V → (List V) → Option (V × TR))) (a0 : TR) (a1 : Int) (a2 : Int) (a3 : V) (a4 : (List V)) (hgR : ∀ (N : Nat) (a0 : TR) (a1 : Int) (a2 : Me) (a3 : V) (a4 : (List V)) (r : (V × TR)), gR N a0 a1 a2 a3 a4 = some r → Spec Try.prog 83 [(1000, .box [.sl 4 (List.map eCl a0.w.classes), .sl 2 (List.map eOb a0.w.heap), .int a0.w.epoch, .int a0.fuel, .int a0.sends, .int a0.turns, .int a0.deep, .int a0.err, .own 1001, .own 1002] 99), (1001, .row 3 (List.map eSt a0.sites) 56), (1002, .row 1 (List.map eInt a0.of) 3)] [.ptr 1000 0, .int a1, .agg (eMe a2), .agg (eV a3), .sl 2 (List.map eV a4)] (.agg (eV r.1)) [(1000, .box [.sl 4 (List.map eCl r.2.w.classes), .sl 2 (List.map eOb r.2.w.heap), .int r.2.w.epoch, .int r.2.fuel, .int r.2.sends, .int r.2.turns, .int r.2.deep, .int r.2.err, .own 2, .own 3] 99), (2, .row 3 (List.map eSt r.2.sites) 56), (1001, .gone), (3, .row 1 (List.map eInt r.2.of) 3), (1002, .gone)] [2, 3]) (r : (V × TR)) (h : qcref5_R_Enter_f N gR a0 a1 a2 a3 a4 = some r) : Spec Try.prog 46 [(1000, .box [.sl 4 (List.map eCl a0.w.classes), .sl 2 (List.map eOb a0.w.heap), .int a0.w.epoch, .int a0.fuel, .int a0.sends, .int a0.turns, .int a0.deep, .int a0.err, .own 1001, .own 1002] 99), (1001, .row 3 (List.map eSt a0.sites) 56), (1002, .row 1 (List.map eInt a0.of) 3)] [.ptr 1000 0, .int a1, .int a2, .agg (eV a3), .sl 2 (List.map eV a4)] (.agg (eV r.1)) [(1000, .box [.sl 4 (List.map eCl r.2.w.classes), .sl 2 (List.map eOb r.2.w.heap), .int r.2.w.epoch, .int r.2.fuel, .int r.2.sends, .int r.2.turns, .int r.2.deep, .int r.2.err, .own 2, .own 3] 99), (2, .row 3 (List.map eSt r.2.sites) 56), (1001, .gone), (3, .row 1 (List.map eInt r.2.of) 3), (1002, .gone)] [2, 3] := by
 refine Spec.of tabOk Try.func46 rfl Try.ntmps46 (by kernel_rfl) rfl rfl rfl fun Γ hn => ?_
 unfold qcref5_R_Enter_f at h
 refine COk.reidB 1000 8 1001 320 rfl rfl rfl rfl rfl rfl rfl rfl rfl ?_
 refine COk.reidB 1000 9 1002 321 rfl rfl rfl rfl rfl rfl rfl rfl rfl ?_
 refine gos hn ?_
 refine gos hn ?_
 obtain ⟨x1, hx2, h⟩ := bindM h
 refine idxM hx2 ?_
 obtain ⟨x3, hx4, h⟩ := bindM h
 refine idxM hx4 ?_
 refine COk.seqQ fun _ A0 _ R0 => ?_
 refine kp [(0, _), (1, _), (4, _), (8, _), (10, _), (11, _)] [(8, _), (10, _), (11, _), (320, _), (321, _), (1000, _), (1001, _), (1002, _)] ?_
 refine gos hn ?_
 refine lenM (fun hl5 => ?_)
 refine goc hn ?_
 refine bselM h (fun hb6 h => ?_) (fun hb6 h => ?_)
 ·refine gos hn ?_
  refine gos hn ?_
  refine got hn ?_
  refine R0 _ _ ?_
  obtain rfl := Option.some.inj h
  exact ⟨[(2, 320), (3, 321)], _, fm⟩
 refine gok hn ?_
 refine A0 _ _ ?_
 refine COk.seqQ fun _ A1 _ R1 => ?_
 refine COk.seqQ fun _ A2 _ _ => ?_
 refine god hn (by kernel_rfl) ?_
 refine A2 _ _ ?_
 refine goc hn ?_
 refine bselM h (fun hb7 h => ?_) (fun hb7 h => ?_)
 ·refine kp [(0, _), (10, _)] [(10, _), (320, _), (321, _), (1000, _), (1001, _), (1002, _)] ?_
  refine gos hn ?_
  refine gos hn ?_
  refine got hn ?_
  refine R1 _ _ ?_
  obtain rfl := Option.some.inj h
  exact ⟨[(2, 320), (3, 321)], _, fm⟩
 refine gok hn ?_
 refine A1 _ _ ?_
 refine COk.seqQ fun _ A3 _ R3 => ?_
 refine kp [(0, _), (1, _), (4, _), (8, _), (10, _), (11, _)] [(8, _), (10, _), (11, _), (320, _), (321, _), (1000, _), (1001, _), (1002, _)] ?_
 refine gos hn ?_
 refine goc hn ?_
 refine bselM h (fun hb8 h => ?_) (fun hb8 h => ?_)
 ·refine gos hn ?_
  refine Or.inr ?_
  refine COk.seqQ fun _ A4 _ _ => ?_
  refine god hn (by kernel_rfl) ?_
  obtain ⟨x9, hx10, h⟩ := bindM h
  refine idxM hx10 ?_
  obtain ⟨r11, hr12, h⟩ := bindM h
  show CallOk Try.prog _ _ _ _
  refine cA (qcref1_Prim_ok N x3.prim a3 x9 r11 hr12) ?_
  refine A4 _ _ ?_
  refine kp [(0, _), (10, _), (12, _), (13, _)] [(10, _), (12, _), (320, _), (321, _), (1000, _), (1001, _), (1002, _)] ?_
  refine gos hn ?_
  refine gos hn ?_
  refine got hn ?_
  refine R3 _ _ ?_
  obtain rfl := Option.some.inj h
  exact ⟨[(2, 320), (3, 321)], _, fm⟩
 refine gok hn ?_
 refine A3 _ _ ?_
 refine COk.seqQ fun _ A5 _ R5 => ?_
 refine gos hn ?_
 refine goc hn ?_
 refine bselM h (fun hb13 h => ?_) (fun hb13 h => ?_)
 ·refine gos hn ?_
  refine kp [(0, _), (10, _)] [(10, _), (320, _), (321, _), (1000, _), (1001, _), (1002, _)] ?_
  refine gos hn ?_
  refine got hn ?_
  refine R5 _ _ ?_
  obtain rfl := Option.some.inj h
  exact ⟨[(2, 320), (3, 321)], _, fm⟩
 refine gok hn ?_
 refine A5 _ _ ?_
 refine gos hn ?_
 refine Or.inr ?_
 refine kp [(0, _), (1, _), (4, _), (8, _), (10, _), (11, _)] [(8, _), (10, _), (11, _), (320, _), (321, _), (1000, _), (1001, _), (1002, _)] ?_
 refine gos hn ?_
 refine Or.inr ?_
 refine gos hn ?_
 obtain ⟨r14, hr15, h⟩ := bindM h
 show CallOk Try.prog _ _ _ _
 refine cA ((hgR N (⟨a0.w, a0.fuel, (wr (a0.sends + (1 : Int))), a0.turns, (wr (a0.deep + (1 : Int))), a0.err, a0.sites, a0.of⟩ : TR) a1 x3 a3 a4 r14 hr15).swl [(1001, 320), (1002, 321), (2, 501), (3, 502)] rfl) ?_
 refine kp [(0, _), (10, _), (14, _)] [(10, _), (14, _), (501, _), (502, _), (1000, _), (1001, _), (1002, _)] ?_
 refine gos hn ?_
 refine Or.inr ?_
 refine gos hn ?_
 refine got hn ?_
 obtain rfl := Option.some.inj h
 exact ⟨[(2, 501), (3, 502)], _, fm⟩

/- qcref1.Slot -/
set_option maxRecDepth 100000 in
set_option maxHeartbeats 8000000 in
theorem qcref1_Slot_ok (N : Nat) (a0 : (List Ob)) (a1 : V) (a2 : Int) (r : V) (h : qcref1_Slot N a0 a1 a2 = some r) : Spec Try.prog 111 [] [.sl 2 (List.map eOb a0), .agg (eV a1), .int a2] (.agg (eV r)) [] [] := by
 refine Spec.of tabOk Try.func111 rfl Try.ntmps111 (by kernel_rfl) rfl rfl rfl fun Γ hn => ?_
 unfold qcref1_Slot at h
 refine gos hn ?_
 refine COk.seqQ fun _ A0 _ R0 => ?_
 refine COk.seqQ fun _ A1 _ _ => ?_
 obtain ⟨o3, h2, h⟩ := bindM h
 refine COk.joinR (ι := { s // o3 = s }) (fun s => [(0, .sl 2 (List.map eOb a0)), (2, .int a2), (4, .ptr 4 0), (6, .ptr 6 0), (23, .bool s.1)]) (fun s => [(4, .box (eV a1) 27), (6, .box [.int (0 : Int), .int (0 : Int)] 27)]) (fun _ A2 _ _ => ?_) (by intro s; rw [hn]; rfl) ?_
 ·refine gor hn ?_
  refine bselM h2 (fun hb4 h2 => ?_) (fun hb4 h2 => ?_)
  ·refine bselT hb4 ?_
   refine bselT hb4 ?_
   refine bselT hb4 ?_
   refine bselM h2 (fun hb5 h2 => ?_) (fun hb5 h2 => ?_)
   ·refine bselT hb5 ?_
    refine bselT hb5 ?_
    refine bselT hb5 ?_
    refine lenM (fun hl6 => ?_)
    refine bselT hb5 ?_
    refine bselT hb5 ?_
    refine A2 _ _ ?_
    obtain rfl := Option.some.inj h2
    exact jn ⟨_, rfl⟩ []
   refine bselF hb5 ?_
   refine bselF hb5 ?_
   refine bselF hb5 ?_
   refine bselF hb5 ?_
   refine bselF hb5 ?_
   refine A2 _ _ ?_
   obtain rfl := Option.some.inj h2
   exact jn ⟨_, rfl⟩ []
  refine bselF hb4 ?_
  refine bselF hb4 ?_
  refine bselF hb4 ?_
  refine A2 _ _ ?_
  obtain rfl := Option.some.inj h2
  exact jn ⟨_, rfl⟩ []
 rintro ⟨v1, hv_⟩
 replace hv_ := hv_.symm
 subst hv_
 refine A1 _ _ ?_
 obtain ⟨o8, h7, h⟩ := bindM h
 refine COk.joinR (ι := { s // o8 = Ctl.next s }) (fun s => [(6, .ptr 6 0)]) (fun s => [(6, .box [.int (0 : Int), .int (0 : Int)] 27)]) (fun _ A3 _ R3 => ?_) (by intro s; rw [hn]; rfl) ?_
 ·refine goc hn ?_
  refine bselM h7 (fun hb9 h7 => ?_) (fun hb9 h7 => ?_)
  ·refine gos hn ?_
   obtain ⟨x10, hx11, h7⟩ := bindM h7
   refine idxM hx11 ?_
   refine lenM (fun hl12 => ?_)
   obtain ⟨o14, h15, h7⟩ := bindM h7
   refine COk.joinR (ι := { s // o14 = Ctl.next s }) (fun s => [(6, .ptr 6 0)]) (fun s => [(6, .box [.int (0 : Int), .int (0 : Int)] 27)]) (fun _ A4 _ R4 => ?_) (by intro s; rw [hn]; rfl) ?_
   ·refine COk.blkQ fun _ _ E5 _ R5 => ?_
    refine COk.loopQ (ι := { q : ((List V) × Nat) // q.1 = x10.slots.drop q.2 ∧ qcref1_Slot_l1 N a2 q.1 q.2 = some o14 }) (fun q => [(2, .int a2), (6, .ptr 6 0), (29, .sl 2 (List.map eV x10.slots)), (30, .int (x10.slots.length : Int)), (31, .int (q.1.2 : Int))]) (fun q => [(6, .box [.int (0 : Int), .int (0 : Int)] 27)]) (fun q => q.1.1.length) ⟨(x10.slots, 0), rfl, h15⟩ [] ⟨⟨rfl, rfl, (by repeat (first | exact trivial | exact rfl | (refine And.intro ?_ ?_))), rfl, rfl, trivial⟩, ⟨rfl, trivial⟩, rfl, rfl⟩ (by intro q; rw [hn]; rfl) ?_
    rintro ⟨⟨rest_, k13⟩, hd17, h15⟩ _ A6 X6 R6
    replace hd17 : rest_ = x10.slots.drop k13 := hd17
    rcases rest_ with _ | ⟨x19, rest16⟩
    ·have hlt21 := restNil hd17
     replace h15 := (qcref1_Slot_l1.eq_1 _ _ _).symm.trans h15
     refine gos hn ?_
     refine COk.seqQ fun _ _ X7 _ => ?_
     refine goc hn ?_
     refine bselF hlt21 ?_
     refine goe hn ?_
     refine X7 _ _ _ ?_
     refine X6 _ _ _ ?_
     refine E5 _ _ ?_
     refine A4 _ _ ?_
     obtain rfl := Option.some.inj h15
     exact jn ⟨_, rfl⟩ []
    ·obtain ⟨hx20, hd2, hlt21⟩ := restCons hd17
     replace h15 := (qcref1_Slot_l1.eq_2 _ _ _ _ _).symm.trans h15
     refine gos hn ?_
     refine COk.seqQ fun _ A8 _ _ => ?_
     refine goc hn ?_
     refine bselT hlt21 ?_
     refine gok hn ?_
     refine A8 _ _ ?_
     refine COk.seqQ fun _ A9 _ R9 => ?_
     refine COk.blkQ fun _ A10 _ _ R10 => ?_
     refine gos hn ?_
     refine idxK hx20 ?_
     refine gos hn ?_
     refine goc hn ?_
     refine bselM h15 (fun hb22 h15 => ?_) (fun hb22 h15 => ?_)
     ·refine gos hn ?_
      refine got hn ?_
      refine R10 _ _ ?_
      refine R9 _ _ ?_
      refine R6 _ _ ?_
      refine R5 _ _ ?_
      refine R4 _ _ ?_
      refine R3 _ _ ?_
      refine R0 _ _ ?_
      obtain rfl := Option.some.inj h15
      obtain rfl := Option.some.inj h7
      obtain rfl := Option.some.inj h
      exact ⟨[], _, fm⟩
     refine gok hn ?_
     refine A10 _ _ ?_
     refine A9 _ _ ?_
     refine gor hn ?_
     refine Or.inl (And.intro (inrK hx20 hl12) ?_)
     refine A6 _ _ ?_
     exact jn ⟨(rest16, k13 + 1), hd2, h15⟩ [] (by show rest16.length < rest16.length + 1; omega)
   rintro ⟨⟨⟩, rfl⟩
   refine A3 _ _ ?_
   obtain rfl := Option.some.inj h7
   exact jn ⟨_, rfl⟩ []
  refine gok hn ?_
  refine A3 _ _ ?_
  obtain rfl := Option.some.inj h7
  exact jn ⟨_, rfl⟩ []
 rintro ⟨⟨⟩, rfl⟩
 refine A0 _ _ ?_
 refine gos hn ?_
 refine got hn ?_
 obtain rfl := Option.some.inj h
 exact ⟨[], _, fm⟩

/- (*qcref5.R).Body$1 -/
set_option maxRecDepth 100000 in
set_option maxHeartbeats 8000000 in
theorem qcref5_R_Body_1_ok (N : Nat) (b0 : (List V)) (r : (V × (List V))) (h : qcref5_R_Body_1 N b0 = some r) : Spec Try.prog 110 [(1000, .box [.own 1001] 28), (1001, .row 2 (List.map eV b0) 27)] [.ptr 1000 0] (.agg (eV r.1)) [(1000, .box [.own 2] 28), (2, .row 2 (List.map eV r.2) 27), (1001, .gone)] [2] := by
 refine Spec.of tabOk Try.func110 rfl Try.ntmps110 (by kernel_rfl) rfl rfl rfl fun Γ hn => ?_
 unfold qcref5_R_Body_1 at h
 refine COk.reidB 1000 0 1001 320 rfl rfl rfl rfl rfl rfl rfl rfl rfl ?_
 refine gos hn ?_
 refine gos hn ?_
 refine lenM (fun hl1 => ?_)
 refine Or.inr ?_
 obtain ⟨x2, hx3, h⟩ := bindM h
 refine ownM hx3 ?_
 refine ldM (nthO_some hx3).2 ?_
 refine gos hn ?_
 refine lenM (fun hl4 => ?_)
 refine Or.inr ?_
 obtain ⟨hg5, h⟩ := guardM h
 refine takeM hg5 rfl rfl ?_
 refine gos hn ?_
 refine got hn ?_
 obtain rfl := Option.some.inj h
 exact ⟨[(2, 13)], _, fm⟩

/- (*qcref5.R).slot -/
set_option maxRecDepth 100000 in
set_option maxHeartbeats 8000000 in
theorem qcref5_R_slot_ok (N : Nat) (a0 : TR) (a1 : V) (a2 : Int) (a3 : V) (r : TR) (h : qcref5_R_slot N a0 a1 a2 a3 = some r) : Spec Try.prog 112 [(1000, .box [.sl 4 (List.map eCl a0.w.classes), .sl 2 (List.map eOb a0.w.heap), .int a0.w.epoch, .int a0.fuel, .int a0.sends, .int a0.turns, .int a0.deep, .int a0.err, .own 1001, .own 1002] 99), (1001, .row 3 (List.map eSt a0.sites) 56), (1002, .row 1 (List.map eInt a0.of) 3)] [.ptr 1000 0, .agg (eV a1), .int a2, .agg (eV a3)] (.tup []) [(1000, .box [.sl 4 (List.map eCl r.w.classes), .sl 2 (List.map eOb r.w.heap), .int r.w.epoch, .int r.fuel, .int r.sends, .int r.turns, .int r.deep, .int r.err, .own 2, .own 3] 99), (2, .row 3 (List.map eSt r.sites) 56), (1001, .gone), (3, .row 1 (List.map eInt r.of) 3), (1002, .gone)] [2, 3] := by
 refine Spec.of tabOk Try.func112 rfl Try.ntmps112 (by kernel_rfl) rfl rfl rfl fun Γ hn => ?_
 unfold qcref5_R_slot at h
 refine COk.reidB 1000 8 1001 320 rfl rfl rfl rfl rfl rfl rfl rfl rfl ?_
 refine COk.reidB 1000 9 1002 321 rfl rfl rfl rfl rfl rfl rfl rfl rfl ?_
 refine gos hn ?_
 refine gos hn ?_
 refine Or.inr ?_
 refine Exists.intro (List.map eOb ([] : List Ob)) (And.intro (by repeat (first | exact trivial | exact rfl | (refine And.intro ?_ ?_))) ?_)
 obtain ⟨hg1, h⟩ := guardM h
 refine appM (l2 := a0.w.heap) hg1 (leLs_refl _) ?_
 refine COk.seqQ fun _ A0 _ _ => ?_
 obtain ⟨o4, h3, h⟩ := bindM h
 refine COk.joinR (ι := { s // o4 = s }) (fun s => [(0, .ptr 1000 0), (2, .int a2), (5, .ptr 5 0), (7, .ptr 7 0), (8, .own 16), (37, .bool s.1)]) (fun s => [(5, .box (eV a1) 27), (7, .box (eV a3) 27), (16, .row 2 (List.map eOb (([] : List Ob) ++ a0.w.heap)) 97), (320, .row 3 (List.map eSt a0.sites) 56), (321, .row 1 (List.map eInt a0.of) 3), (1000, .box [.sl 4 (List.map eCl a0.w.classes), .sl 2 (List.map eOb a0.w.heap), .int a0.w.epoch, .int a0.fuel, .int a0.sends, .int a0.turns, .int a0.deep, .int a0.err, .own 320, .own 321] 99), (1001, .gone), (1002, .gone)]) (fun _ A1 _ _ => ?_) (by intro s; rw [hn]; rfl) ?_
 ·refine gor hn ?_
  refine bselM h3 (fun hb5 h3 => ?_) (fun hb5 h3 => ?_)
  ·refine bselT hb5 ?_
   refine bselT hb5 ?_
   refine bselT hb5 ?_
   refine lenM (fun hl6 => ?_)
   refine bselT hb5 ?_
   refine bselT hb5 ?_
   refine bselM h3 (fun hb7 h3 => ?_) (fun hb7 h3 => ?_)
   ·refine bselT hb7 ?_
    refine bselT hb7 ?_
    refine bselT hb7 ?_
    refine bselT hb7 ?_
    obtain ⟨x8, hx9, h3⟩ := bindM h3
    refine ownM hx9 ?_
    refine bselT hb7 ?_
    refine bselT hb7 ?_
    refine ldM (nthO_some hx9).2 ?_
    refine bselT hb7 ?_
    refine lenM (fun hl10 => ?_)
    refine bselT hb7 ?_
    refine bselT hb7 ?_
    refine A1 _ _ ?_
    obtain rfl := Option.some.inj h3
    exact jn ⟨_, rfl⟩ []
   refine bselF hb7 ?_
   refine bselF hb7 ?_
   refine bselF hb7 ?_
   refine bselF hb7 ?_
   refine bselF hb7 ?_
   refine bselF hb7 ?_
   refine bselF hb7 ?_
   refine bselF hb7 ?_
   refine bselF hb7 ?_
   refine A1 _ _ ?_
   obtain rfl := Option.some.inj h3
   exact jn ⟨_, rfl⟩ []
  refine bselF hb5 ?_
  refine bselF hb5 ?_
  refine bselF hb5 ?_
  refine bselF hb5 ?_
  refine bselF hb5 ?_
  refine A1 _ _ ?_
  obtain rfl := Option.some.inj h3
  exact jn ⟨_, rfl⟩ []
 rintro ⟨v2, hv_⟩
 replace hv_ := hv_.symm
 subst hv_
 refine A0 _ _ ?_
 obtain ⟨o13, h12, h⟩ := bindM h
 refine COk.joinR (ι := { s // o13 = s }) (fun s => [(0, .ptr 1000 0)]) (fun s => [(320, .row 3 (List.map eSt a0.sites) 56), (321, .row 1 (List.map eInt a0.of) 3), (1000, .box [.sl 4 (List.map eCl a0.w.classes), .sl 2 (List.map eOb s.1), .int a0.w.epoch, .int a0.fuel, .int a0.sends, .int a0.turns, .int a0.deep, .int a0.err, .own 320, .own 321] 99), (1001, .gone), (1002, .gone)]) (fun _ A2 _ _ => ?_) (by intro s; rw [hn]; rfl) ?_
 ·refine goc hn ?_
  refine bselM h12 (fun hb14 h12 => ?_) (fun hb14 h12 => ?_)
  ·refine gos hn ?_
   refine Exists.intro (List.map eV ([] : List V)) (And.intro (by repeat (first | exact trivial | exact rfl | (refine And.intro ?_ ?_))) ?_)
   obtain ⟨x15, hx16, h12⟩ := bindM h12
   refine ownM hx16 ?_
   refine ldM (nthO_some hx16).2 ?_
   obtain ⟨hg17, h12⟩ := guardM h12
   refine appM (l2 := x15.slots) hg17 (leLs_refl _) ?_
   refine gos hn ?_
   obtain ⟨x18, hx19, h12⟩ := bindM h12
   refine ownM hx19 ?_
   refine ldM (nthO_some hx19).2 ?_
   refine Exists.intro (List.map eV ((([] : List V) ++ x15.slots).set a2.toNat a3)) (And.intro (leLs_set (nthO_some hx19).2 (by repeat (first | exact trivial | exact rfl | (refine And.intro ?_ ?_)))) ?_)
   refine COk.fzAll 45 rfl ?_
   refine kp [(0, _), (5, _), (8, _), (9, _)] [(5, _), (16, _), (320, _), (321, _), (1000, _), (1001, _), (1002, _)] ?_
   refine gos hn ?_
   obtain ⟨x20, hx21, h12⟩ := bindM h12
   refine ownM hx21 ?_
   refine ldM (nthO_some hx21).2 ?_
   refine Exists.intro (List.map eOb ((([] : List Ob) ++ a0.w.heap).set a1.n.toNat (⟨x20.cls, ((([] : List V) ++ x15.slots).set a2.toNat a3)⟩ : Ob))) (And.intro (leLs_set (nthO_some hx21).2 (by repeat (first | exact trivial | exact rfl | (refine And.intro ?_ ?_)))) ?_)
   refine gor hn ?_
   refine A2 _ _ ?_
   obtain rfl := Option.some.inj h12
   refine EOk.fzAll 16 rfl ?_
   exact jn ⟨_, rfl⟩ []
  refine gok hn ?_
  refine A2 _ _ ?_
  obtain rfl := Option.some.inj h12
  exact jn ⟨_, rfl⟩ []
 rintro ⟨v11, hv_⟩
 replace hv_ := hv_.symm
 subst hv_
 obtain rfl := Option.some.inj h
 exact ⟨[(2, 320), (3, 321)], _, fm⟩

/- (*qcref5.R).Body -/
set_option maxRecDepth 100000 in
set_option maxHeartbeats 8000000 in
theorem qcref5_R_Body_f_ok (N : Nat) (gR : (Nat → TR → Int → Int → V → (List V) → Option (V × TR))) (a0 : TR) (a1 : Int) (a2 : Me) (a3 : V) (a4 : (List V)) (hgR : ∀ (N : Nat) (a0 : TR) (a1 : Int) (a2 : Int) (a3 : V) (a4 : (List V)) (r : (V × TR)), gR N a0 a1 a2 a3 a4 = some r → Spec Try.prog 46 [(1000, .box [.sl 4 (List.map eCl a0.w.classes), .sl 2 (List.map eOb a0.w.heap), .int a0.w.epoch, .int a0.fuel, .int a0.sends, .int a0.turns, .int a0.deep, .int a0.err, .own 1001, .own 1002] 99), (1001, .row 3 (List.map eSt a0.sites) 56), (1002, .row 1 (List.map eInt a0.of) 3)] [.ptr 1000 0, .int a1, .int a2, .agg (eV a3), .sl 2 (List.map eV a4)] (.agg (eV r.1)) [(1000, .box [.sl 4 (List.map eCl r.2.w.classes), .sl 2 (List.map eOb r.2.w.heap), .int r.2.w.epoch, .int r.2.fuel, .int r.2.sends, .int r.2.turns, .int r.2.deep, .int r.2.err, .own 2, .own 3] 99), (2, .row 3 (List.map eSt r.2.sites) 56), (1001, .gone), (3, .row 1 (List.map eInt r.2.of) 3), (1002, .gone)] [2, 3]) (r : (V × TR)) (h : qcref5_R_Body_f N gR a0 a1 a2 a3 a4 = some r) : Spec Try.prog 83 [(1000, .box [.sl 4 (List.map eCl a0.w.classes), .sl 2 (List.map eOb a0.w.heap), .int a0.w.epoch, .int a0.fuel, .int a0.sends, .int a0.turns, .int a0.deep, .int a0.err, .own 1001, .own 1002] 99), (1001, .row 3 (List.map eSt a0.sites) 56), (1002, .row 1 (List.map eInt a0.of) 3)] [.ptr 1000 0, .int a1, .agg (eMe a2), .agg (eV a3), .sl 2 (List.map eV a4)] (.agg (eV r.1)) [(1000, .box [.sl 4 (List.map eCl r.2.w.classes), .sl 2 (List.map eOb r.2.w.heap), .int r.2.w.epoch, .int r.2.fuel, .int r.2.sends, .int r.2.turns, .int r.2.deep, .int r.2.err, .own 2, .own 3] 99), (2, .row 3 (List.map eSt r.2.sites) 56), (1001, .gone), (3, .row 1 (List.map eInt r.2.of) 3), (1002, .gone)] [2, 3] := by
 refine Spec.of tabOk Try.func83 rfl Try.ntmps83 (by kernel_rfl) rfl rfl rfl fun Γ hn => ?_
 unfold qcref5_R_Body_f at h
 refine COk.reidB 1000 8 1001 320 rfl rfl rfl rfl rfl rfl rfl rfl rfl ?_
 refine COk.reidB 1000 9 1002 321 rfl rfl rfl rfl rfl rfl rfl rfl rfl ?_
 refine gos hn ?_
 refine gos hn ?_
 obtain ⟨hg1, h⟩ := guardM h
 refine mkM (enc := eV) (x := (⟨(0 : Int), (0 : Int)⟩ : V)) hg1 (by repeat (first | exact trivial | exact rfl | (refine And.intro ?_ ?_))) ?_
 refine gos hn ?_
 refine gos hn ?_
 refine gos hn ?_
 refine COk.seqQ fun _ A0 _ R0 => ?_
 refine COk.nilrowB 12 0 501 2 27 rfl rfl rfl rfl rfl rfl ?_
 obtain ⟨o39, h40, h⟩ := bindM h
 refine COk.joinR (ι := { s // o39 = Ctl.next s }) (fun s => [(0, .ptr 1000 0), (10, .ptr 10 0)]) (fun s => [(10, .box [.int (0 : Int), .int (0 : Int)] 27), (320, .row 3 (List.map eSt s.1.2.2.2.2.2.2.2.2.1) 56), (321, .row 1 (List.map eInt s.1.2.2.2.2.2.2.2.2.2) 3), (1000, .box [.sl 4 (List.map eCl s.1.1), .sl 2 (List.map eOb s.1.2.1), .int s.1.2.2.1, .int s.1.2.2.2.1, .int s.1.2.2.2.2.1, .int s.1.2.2.2.2.2.1, .int s.1.2.2.2.2.2.2.1, .int s.1.2.2.2.2.2.2.2.1, .own 320, .own 321] 99), (1001, .gone), (1002, .gone)]) (fun _ A1 _ R1 => ?_) (by intro s; rw [hn]; rfl) ?_
 ·refine COk.blkQ fun _ _ E2 _ R2 => ?_
  refine COk.loopQ (ι := { q : (Nat × (List Cl) × (List Ob) × Int × Int × Int × Int × Int × Int × (List St) × (List Int) × (List V) × (List V) × Int) // qcref5_R_Body_f_l1 N gR a1 a2 a3 a4 q.1 q.2.1 q.2.2.1 q.2.2.2.1 q.2.2.2.2.1 q.2.2.2.2.2.1 q.2.2.2.2.2.2.1 q.2.2.2.2.2.2.2.1 q.2.2.2.2.2.2.2.2.1 q.2.2.2.2.2.2.2.2.2.1 q.2.2.2.2.2.2.2.2.2.2.1 q.2.2.2.2.2.2.2.2.2.2.2.1 q.2.2.2.2.2.2.2.2.2.2.2.2.1 q.2.2.2.2.2.2.2.2.2.2.2.2.2 = some o39 }) (fun q => [(0, .ptr 1000 0), (1, .int a1), (4, .sl 2 (List.map eV a4)), (7, .ptr 7 0), (8, .ptr 8 0), (10, .ptr 10 0), (11, .own 27), (12, .ptr 12 0), (13, .fn 110 [.ptr 12 0]), (14, .int q.1.2.2.2.2.2.2.2.2.2.2.2.2.2)]) (fun q => [(7, .box (eMe a2) 54), (8, .box (eV a3) 27), (10, .box [.int (0 : Int), .int (0 : Int)] 27), (12, .box [.own 501] 28), (27, .row 2 (List.map eV q.1.2.2.2.2.2.2.2.2.2.2.2.1) 27), (320, .row 3 (List.map eSt q.1.2.2.2.2.2.2.2.2.2.1) 56), (321, .row 1 (List.map eInt q.1.2.2.2.2.2.2.2.2.2.2.1) 3), (501, .row 2 (List.map eV q.1.2.2.2.2.2.2.2.2.2.2.2.2.1) 27), (1000, .box [.sl 4 (List.map eCl q.1.2.1), .sl 2 (List.map eOb q.1.2.2.1), .int q.1.2.2.2.1, .int q.1.2.2.2.2.1, .int q.1.2.2.2.2.2.1, .int q.1.2.2.2.2.2.2.1, .int q.1.2.2.2.2.2.2.2.1, .int q.1.2.2.2.2.2.2.2.2.1, .own 320, .own 321] 99), (1001, .gone), (1002, .gone)]) (fun q => q.1.1) ⟨(N, a0.w.classes, a0.w.heap, a0.w.epoch, a0.fuel, a0.sends, a0.turns, a0.deep, a0.err, a0.sites, a0.of, (List.replicate a2.temps.toNat (⟨(0 : Int), (0 : Int)⟩ : V)), ([] : List V), (0 : Int)), h40⟩ [] ⟨⟨rfl, rfl, (by repeat (first | exact trivial | exact rfl | (refine And.intro ?_ ?_))), rfl, rfl, rfl, rfl, rfl, (by repeat (first | exact trivial | exact rfl | (refine And.intro ?_ ?_))), rfl, trivial⟩, ⟨rfl, rfl, rfl, rfl, rfl, rfl, rfl, rfl, rfl, rfl, rfl, trivial⟩, rfl, rfl⟩ (by intro q; rw [hn]; rfl) ?_
  rintro ⟨⟨n_, v3, v4, v5, v6, v7, v8, v9, v10, v11, v12, v13, v14, v15⟩, h40⟩ _ A3 X3 R3
  rcases n_ with _ | n43
  ·rw [qcref5_R_Body_f_l1.eq_1] at h40
   cases h40
  ·replace h40 := (qcref5_R_Body_f_l1.eq_2 _ _ _ _ _ _ _ _ _ _ _ _ _ _ _ _ _ _ _ _).symm.trans h40
   refine COk.seqQ fun _ A4 X4 _ => ?_
   refine gos hn ?_
   refine goc hn ?_
   refine bselM h40 (fun hb44 h40 => ?_) (fun hb44 h40 => ?_)
   ·refine gok hn ?_
    refine A4 _ _ ?_
    refine COk.blkQ fun _ A5 _ _ R5 => ?_
    refine gos hn ?_
    obtain ⟨x45, hx46, h40⟩ := bindM h40
    refine idxM hx46 ?_
    refine kp [(0, _), (1, _), (4, _), (7, _), (8, _), (10, _), (11, _), (12, _), (13, _), (14, _), (15, _)] [(7, _), (8, _), (10, _), (12, _), (15, _), (27, _), (320, _), (321, _), (501, _), (1000, _), (1001, _), (1002, _)] ?_
    refine gos hn ?_
    refine Or.inr ?_
    refine COk.seqQ fun _ A6 _ R6 => ?_
    refine gos hn ?_
    obtain ⟨o61, h60, h40⟩ := bindM h40
    refine COk.joinR (ι := { s // o61 = Ctl.next s }) (fun s => [(0, .ptr 1000 0), (1, .int a1), (4, .sl 2 (List.map eV a4)), (7, .ptr 7 0), (8, .ptr 8 0), (10, .ptr 10 0), (11, .own 27), (12, .ptr 12 0), (13, .fn 110 [.ptr 12 0]), (14, .int v15), (16, .int s.1.2.2.2.2.2.2.2.2.2.2.2.2)]) (fun s => [(7, .box (eMe a2) 54), (8, .box (eV a3) 27), (10, .box [.int (0 : Int), .int (0 : Int)] 27), (12, .box [.own 48] 28), (27, .row 2 (List.map eV s.1.2.2.2.2.2.2.2.2.2.2.1) 27), (48, .row 2 (List.map eV s.1.2.2.2.2.2.2.2.2.2.2.2.1) 27), (320, .row 3 (List.map eSt s.1.2.2.2.2.2.2.2.2.1) 56), (321, .row 1 (List.map eInt s.1.2.2.2.2.2.2.2.2.2.1) 3), (1000, .box [.sl 4 (List.map eCl s.1.1), .sl 2 (List.map eOb s.1.2.1), .int s.1.2.2.1, .int s.1.2.2.2.1, .int s.1.2.2.2.2.1, .int s.1.2.2.2.2.2.1, .int s.1.2.2.2.2.2.2.1, .int s.1.2.2.2.2.2.2.2.1, .own 320, .own 321] 99), (1001, .gone), (1002, .gone)]) (fun _ A7 _ R7 => ?_) (by intro s; rw [hn]; rfl) ?_
    ·refine COk.blkQ fun _ A8 E8 _ R8 => ?_
     refine gos hn ?_
     refine goc hn ?_
     refine bselM h60 (fun hb62 h60 => ?_) (fun hb62 h60 => ?_)
     ·refine kp [(0, _), (1, _), (4, _), (7, _), (8, _), (10, _), (11, _), (12, _), (13, _), (14, _), (16, _)] [(7, _), (8, _), (10, _), (12, _), (27, _), (320, _), (321, _), (501, _), (1000, _), (1001, _), (1002, _)] ?_
      refine gor hn ?_
      refine Exists.intro (List.map eV [a3]) (And.intro (by repeat (first | exact trivial | exact rfl | (refine And.intro ?_ ?_))) ?_)
      obtain ⟨hg63, h60⟩ := guardM h60
      refine appM (l2 := [a3]) hg63 (leLs_refl _) ?_
      refine A8 _ _ ?_
      refine A7 _ _ ?_
      obtain rfl := Option.some.inj h60
      exact jn ⟨_, rfl⟩ []
     refine kp [(0, _), (1, _), (4, _), (7, _), (8, _), (10, _), (11, _), (12, _), (13, _), (14, _), (15, _), (16, _), (42, _)] [(7, _), (8, _), (10, _), (12, _), (15, _), (27, _), (320, _), (321, _), (501, _), (1000, _), (1001, _), (1002, _)] ?_
     refine gos hn ?_
     refine goc hn ?_
     refine bselM h60 (fun hb64 h60 => ?_) (fun hb64 h60 => ?_)
     ·refine god hn (by kernel_rfl) ?_
      obtain ⟨x65, hx66, h60⟩ := bindM h60
      refine idxM hx66 ?_
      refine Exists.intro (List.map eV [x65]) (And.intro (by repeat (first | exact trivial | exact rfl | (refine And.intro ?_ ?_))) ?_)
      obtain ⟨hg67, h60⟩ := guardM h60
      refine appM (l2 := [x65]) hg67 (leLs_refl _) ?_
      refine A8 _ _ ?_
      refine A7 _ _ ?_
      obtain rfl := Option.some.inj h60
      exact jn ⟨_, rfl⟩ [(48, 58)]
     refine gos hn ?_
     refine goc hn ?_
     refine bselM h60 (fun hb68 h60 => ?_) (fun hb68 h60 => ?_)
     ·refine COk.sub (ts2 := [(0, .ptr 1000 0), (1, .int a1), (4, .sl 2 (List.map eV a4)), (7, .ptr 7 0), (8, .ptr 8 0), (10, .ptr 10 0), (11, .own 27), (12, .ptr 12 0), (13, .fn 110 [.ptr 12 0]), (14, .int v15), (15, .ptr 15 0), (16, .int (wr (v15 + (1 : Int))))]) (os2 := [(7, .box (eMe a2) 54), (8, .box (eV a3) 27), (10, .box [.int (0 : Int), .int (0 : Int)] 27), (12, .box [.own 501] 28), (15, .box (eIns x45) 60), (27, .row 2 (List.map eV v13) 27), (320, .row 3 (List.map eSt v11) 56), (321, .row 1 (List.map eInt v12) 3), (501, .row 2 (List.map eV v14) 27), (1000, .box [.sl 4 (List.map eCl v3), .sl 2 (List.map eOb v4), .int v5, .int v6, .int v7, .int v8, .int v9, .int v10, .own 320, .own 321] 99), (1001, .gone), (1002, .gone)]) [] ⟨⟨rfl, rfl, (by repeat (first | exact trivial | exact rfl | (refine And.intro ?_ ?_))), rfl, rfl, rfl, rfl, rfl, (by repeat (first | exact trivial | exact rfl | (refine And.intro ?_ ?_))), rfl, rfl, rfl, trivial⟩, ⟨rfl, rfl, rfl, rfl, rfl, rfl, rfl, rfl, rfl, rfl, rfl, rfl, trivial⟩, rfl, rfl⟩ (by rw [hn]; rfl) ?_
      refine god hn (by kernel_rfl) ?_
      obtain ⟨x69, hx70, h60⟩ := bindM h60
      refine ownM hx70 ?_
      refine ldM (nthO_some hx70).2 ?_
      refine Exists.intro (List.map eV [x69]) (And.intro (by repeat (first | exact trivial | exact rfl | (refine And.intro ?_ ?_))) ?_)
      obtain ⟨hg71, h60⟩ := guardM h60
      refine appM (l2 := [x69]) hg71 (leLs_refl _) ?_
      refine A8 _ _ ?_
      refine A7 _ _ ?_
      obtain rfl := Option.some.inj h60
      exact jn ⟨_, rfl⟩ [(48, 68)]
     refine kp [(0, _), (1, _), (4, _), (7, _), (8, _), (10, _), (11, _), (12, _), (13, _), (14, _), (15, _), (16, _), (42, _)] [(7, _), (8, _), (10, _), (12, _), (15, _), (27, _), (320, _), (321, _), (501, _), (1000, _), (1001, _), (1002, _)] ?_
     refine gos hn ?_
     refine goc hn ?_
     refine bselM h60 (fun hb72 h60 => ?_) (fun hb72 h60 => ?_)
     ·refine god hn (by kernel_rfl) ?_
      obtain ⟨r73, hr74, h60⟩ := bindM h60
      show CallOk Try.prog _ _ _ _
      refine cA (qcref1_Slot_ok N v4 a3 x45.a r73 hr74) ?_
      refine Exists.intro (List.map eV [r73]) (And.intro (by repeat (first | exact trivial | exact rfl | (refine And.intro ?_ ?_))) ?_)
      obtain ⟨hg75, h60⟩ := guardM h60
      refine appM (l2 := [r73]) hg75 (leLs_refl _) ?_
      refine A8 _ _ ?_
      refine A7 _ _ ?_
      obtain rfl := Option.some.inj h60
      exact jn ⟨_, rfl⟩ [(48, 82)]
     refine gos hn ?_
     refine goc hn ?_
     refine bselM h60 (fun hb76 h60 => ?_) (fun hb76 h60 => ?_)
     ·refine kp [(0, _), (1, _), (4, _), (7, _), (8, _), (10, _), (11, _), (12, _), (13, _), (14, _), (15, _), (16, _)] [(7, _), (8, _), (10, _), (12, _), (15, _), (27, _), (320, _), (321, _), (501, _), (1000, _), (1001, _), (1002, _)] ?_
      refine gor hn ?_
      refine Exists.intro (List.map eV [(⟨(3 : Int), x45.a⟩ : V)]) (And.intro (by repeat (first | exact trivial | exact rfl | (refine And.intro ?_ ?_))) ?_)
      obtain ⟨hg77, h60⟩ := guardM h60
      refine appM (l2 := [(⟨(3 : Int), x45.a⟩ : V)]) hg77 (leLs_refl _) ?_
      refine A8 _ _ ?_
      refine A7 _ _ ?_
      obtain rfl := Option.some.inj h60
      exact jn ⟨_, rfl⟩ [(48, 90)]
     refine kp [(0, _), (1, _), (4, _), (7, _), (8, _), (10, _), (11, _), (12, _), (13, _), (14, _), (15, _), (16, _), (42, _)] [(7, _), (8, _), (10, _), (12, _), (15, _), (27, _), (320, _), (321, _), (501, _), (1000, _), (1001, _), (1002, _)] ?_
     refine gos hn ?_
     refine goc hn ?_
     refine bselM h60 (fun hb78 h60 => ?_) (fun hb78 h60 => ?_)
     ·refine gor hn ?_
      refine Exists.intro (List.map eV [(⟨(0 : Int), (0 : Int)⟩ : V)]) (And.intro (by repeat (first | exact trivial | exact rfl | (refine And.intro ?_ ?_))) ?_)
      obtain ⟨hg79, h60⟩ := guardM h60
      refine appM (l2 := [(⟨(0 : Int), (0 : Int)⟩ : V)]) hg79 (leLs_refl _) ?_
      refine A8 _ _ ?_
      refine A7 _ _ ?_
      obtain rfl := Option.some.inj h60
      exact jn ⟨_, rfl⟩ [(48, 96)]
     refine gos hn ?_
     refine goc hn ?_
     refine bselM h60 (fun hb80 h60 => ?_) (fun hb80 h60 => ?_)
     ·refine kp [(0, _), (1, _), (4, _), (7, _), (8, _), (10, _), (11, _), (12, _), (13, _), (14, _), (16, _)] [(7, _), (8, _), (10, _), (12, _), (27, _), (320, _), (321, _), (501, _), (1000, _), (1001, _), (1002, _)] ?_
      refine god hn (by kernel_rfl) ?_
      obtain ⟨r81, hr82, h60⟩ := bindM h60
      show CallOk Try.prog _ _ _ _
      refine cA (qcref1_Bool_ok N false r81 hr82) ?_
      refine Exists.intro (List.map eV [r81]) (And.intro (by repeat (first | exact trivial | exact rfl | (refine And.intro ?_ ?_))) ?_)
      obtain ⟨hg83, h60⟩ := guardM h60
      refine appM (l2 := [r81]) hg83 (leLs_refl _) ?_
      refine A8 _ _ ?_
      refine A7 _ _ ?_
      obtain rfl := Option.some.inj h60
      exact jn ⟨_, rfl⟩ [(48, 102)]
     refine kp [(0, _), (1, _), (4, _), (7, _), (8, _), (10, _), (11, _), (12, _), (13, _), (14, _), (15, _), (16, _), (42, _)] [(7, _), (8, _), (10, _), (12, _), (15, _), (27, _), (320, _), (321, _), (501, _), (1000, _), (1001, _), (1002, _)] ?_
     refine gos hn ?_
     refine goc hn ?_
     refine bselM h60 (fun hb84 h60 => ?_) (fun hb84 h60 => ?_)
     ·refine god hn (by kernel_rfl) ?_
      obtain ⟨r85, hr86, h60⟩ := bindM h60
      show CallOk Try.prog _ _ _ _
      refine cA (qcref1_Bool_ok N true r85 hr86) ?_
      refine Exists.intro (List.map eV [r85]) (And.intro (by repeat (first | exact trivial | exact rfl | (refine And.intro ?_ ?_))) ?_)
      obtain ⟨hg87, h60⟩ := guardM h60
      refine appM (l2 := [r85]) hg87 (leLs_refl _) ?_
      refine A8 _ _ ?_
      refine A7 _ _ ?_
      obtain rfl := Option.some.inj h60
      exact jn ⟨_, rfl⟩ [(48, 108)]
     refine gos hn ?_
     refine goc hn ?_
     refine bselM h60 (fun hb88 h60 => ?_) (fun hb88 h60 => ?_)
     ·refine kp [(0, _), (1, _), (4, _), (7, _), (8, _), (10, _), (11, _), (12, _), (13, _), (14, _), (16, _)] [(7, _), (8, _), (10, _), (12, _), (27, _), (320, _), (321, _), (501, _), (1000, _), (1001, _), (1002, _)] ?_
      refine gor hn ?_
      obtain ⟨r89, hr90, h60⟩ := bindM h60
      show CallOk Try.prog _ _ _ _
      refine cA ((((qcref5_R_Body_1_ok N v14 r89 hr90).sw 1000 12).sw 1001 501).sw 2 502) ?_
      refine A8 _ _ ?_
      refine A7 _ _ ?_
      obtain rfl := Option.some.inj h60
      exact jn ⟨_, rfl⟩ [(48, 502)]
     refine kp [(0, _), (1, _), (4, _), (7, _), (8, _), (10, _), (11, _), (12, _), (13, _), (14, _), (15, _), (16, _), (42, _)] [(7, _), (8, _), (10, _), (12, _), (15, _), (27, _), (320, _), (321, _), (501, _), (1000, _), (1001, _), (1002, _)] ?_
     refine gos hn ?_
     refine goc hn ?_
     refine bselM h60 (fun hb91 h60 => ?_) (fun hb91 h60 => ?_)
     ·refine gos hn ?_
      obtain ⟨r92, hr93, h60⟩ := bindM h60
      show CallOk Try.prog _ _ _ _
      refine cA ((((qcref5_R_Body_1_ok N v14 r92 hr93).sw 1000 12).sw 1001 501).sw 2 503) ?_
      refine kp [(0, _), (1, _), (4, _), (7, _), (8, _), (10, _), (11, _), (12, _), (13, _), (14, _), (16, _), (17, _)] [(7, _), (8, _), (10, _), (12, _), (17, _), (27, _), (320, _), (321, _), (503, _), (1000, _), (1001, _), (1002, _)] ?_
      refine gor hn ?_
      refine Exists.intro (List.map eV [r92.1, r92.1]) (And.intro (by repeat (first | exact trivial | exact rfl | (refine And.intro ?_ ?_))) ?_)
      obtain ⟨hg94, h60⟩ := guardM h60
      refine appM (l2 := [r92.1, r92.1]) hg94 (leLs_refl _) ?_
      refine A8 _ _ ?_
      refine A7 _ _ ?_
      obtain rfl := Option.some.inj h60
      exact jn ⟨_, rfl⟩ [(48, 121)]
     refine gos hn ?_
     refine goc hn ?_
     refine bselM h60 (fun hb95 h60 => ?_) (fun hb95 h60 => ?_)
     ·refine kp [(0, _), (1, _), (4, _), (7, _), (8, _), (10, _), (11, _), (12, _), (13, _), (14, _), (15, _), (16, _)] [(7, _), (8, _), (10, _), (12, _), (15, _), (27, _), (320, _), (321, _), (501, _), (1000, _), (1001, _), (1002, _)] ?_
      refine god hn (by kernel_rfl) ?_
      obtain ⟨r96, hr97, h60⟩ := bindM h60
      show CallOk Try.prog _ _ _ _
      refine cA ((((qcref5_R_Body_1_ok N v14 r96 hr97).sw 1000 12).sw 1001 501).sw 2 504) ?_
      obtain ⟨x98, hx99, h60⟩ := bindM h60
      refine ownM hx99 ?_
      refine ldM (nthO_some hx99).2 ?_
      refine Exists.intro (List.map eV (v13.set x45.a.toNat r96.1)) (And.intro (leLs_set (nthO_some hx99).2 (by repeat (first | exact trivial | exact rfl | (refine And.intro ?_ ?_)))) ?_)
      refine A8 _ _ ?_
      refine A7 _ _ ?_
      obtain rfl := Option.some.inj h60
      exact jn ⟨_, rfl⟩ [(48, 504)]
     refine kp [(0, _), (1, _), (4, _), (7, _), (8, _), (10, _), (11, _), (12, _), (13, _), (14, _), (15, _), (16, _), (42, _)] [(7, _), (8, _), (10, _), (12, _), (15, _), (27, _), (320, _), (321, _), (501, _), (1000, _), (1001, _), (1002, _)] ?_
     refine gos hn ?_
     refine goc hn ?_
     refine bselM h60 (fun hb100 h60 => ?_) (fun hb100 h60 => ?_)
     ·refine god hn (by kernel_rfl) ?_
      obtain ⟨r101, hr102, h60⟩ := bindM h60
      show CallOk Try.prog _ _ _ _
      refine cA ((((qcref5_R_Body_1_ok N v14 r101 hr102).sw 1000 12).sw 1001 501).sw 2 505) ?_
      obtain ⟨r103, hr104, h60⟩ := bindM h60
      show CallOk Try.prog _ _ _ _
      refine cA ((qcref5_R_slot_ok N (⟨(⟨v3, v4, v5⟩ : Wd), v6, v7, v8, v9, v10, v11, v12⟩ : TR) a3 x45.a r101.1 r103 hr104).swl [(1001, 320), (1002, 321), (2, 506), (3, 507)] rfl) ?_
      refine A8 _ _ ?_
      refine A7 _ _ ?_
      obtain rfl := Option.some.inj h60
      exact jn ⟨_, rfl⟩ [(320, 506), (321, 507), (48, 505)]
     refine gos hn ?_
     refine goc hn ?_
     refine bselM h60 (fun hb105 h60 => ?_) (fun hb105 h60 => ?_)
     ·refine COk.seqQ fun _ A9 X9 _ => ?_
      refine kp [(0, _), (1, _), (4, _), (7, _), (8, _), (10, _), (11, _), (12, _), (13, _), (14, _), (15, _), (16, _)] [(7, _), (8, _), (10, _), (12, _), (15, _), (27, _), (320, _), (321, _), (501, _), (1000, _), (1001, _), (1002, _)] ?_
      refine gos hn ?_
      refine lenM (fun hl106 => ?_)
      refine goc hn ?_
      refine bselM h60 (fun hb107 h60 => ?_) (fun hb107 h60 => ?_)
      ·refine kp [(0, _), (1, _), (4, _), (7, _), (8, _), (10, _), (11, _), (12, _), (13, _), (14, _), (16, _)] [(7, _), (8, _), (10, _), (12, _), (27, _), (320, _), (321, _), (501, _), (1000, _), (1001, _), (1002, _)] ?_
       refine gos hn ?_
       refine goe hn ?_
       refine X9 _ _ _ ?_
       refine E8 _ _ ?_
       refine A7 _ _ ?_
       obtain rfl := Option.some.inj h60
       exact jn ⟨_, rfl⟩ [(48, 501)]
      refine gok hn ?_
      refine A9 _ _ ?_
      refine COk.seqQ fun _ A10 _ _ => ?_
      refine COk.sub (ts2 := [(0, .ptr 1000 0), (1, .int a1), (4, .sl 2 (List.map eV a4)), (7, .ptr 7 0), (8, .ptr 8 0), (10, .ptr 10 0), (11, .own 27), (12, .ptr 12 0), (13, .fn 110 [.ptr 12 0]), (14, .int v15), (15, .ptr 15 0), (16, .int (wr (v15 + (1 : Int))))]) (os2 := [(7, .box (eMe a2) 54), (8, .box (eV a3) 27), (10, .box [.int (0 : Int), .int (0 : Int)] 27), (12, .box [.own 501] 28), (15, .box (eIns x45) 60), (27, .row 2 (List.map eV v13) 27), (320, .row 3 (List.map eSt v11) 56), (321, .row 1 (List.map eInt v12) 3), (501, .row 2 (List.map eV v14) 27), (1000, .box [.sl 4 (List.map eCl v3), .sl 2 (List.map eOb v4), .int v5, .int v6, .int v7, .int v8, .int v9, .int v10, .own 320, .own 321] 99), (1001, .gone), (1002, .gone)]) [] ⟨⟨rfl, rfl, (by repeat (first | exact trivial | exact rfl | (refine And.intro ?_ ?_))), rfl, rfl, rfl, rfl, rfl, (by repeat (first | exact trivial | exact rfl | (refine And.intro ?_ ?_))), rfl, rfl, rfl, trivial⟩, ⟨rfl, rfl, rfl, rfl, rfl, rfl, rfl, rfl, rfl, rfl, rfl, rfl, trivial⟩, rfl, rfl⟩ (by rw [hn]; rfl) ?_
      refine god hn (by kernel_rfl) ?_
      refine lenM (fun hl108 => ?_)
      refine Exists.intro (List.map eV [(⟨(4 : Int), (v4.length : Int)⟩ : V)]) (And.intro (by repeat (first | exact trivial | exact rfl | (refine And.intro ?_ ?_))) ?_)
      obtain ⟨hg109, h60⟩ := guardM h60
      refine appM (l2 := [(⟨(4 : Int), (v4.length : Int)⟩ : V)]) hg109 (leLs_refl _) ?_
      refine A10 _ _ ?_
      refine COk.sub (ts2 := [(0, .ptr 1000 0), (1, .int a1), (4, .sl 2 (List.map eV a4)), (7, .ptr 7 0), (8, .ptr 8 0), (10, .ptr 10 0), (11, .own 27), (12, .ptr 12 0), (13, .fn 110 [.ptr 12 0]), (14, .int v15), (15, .ptr 15 0), (16, .int (wr (v15 + (1 : Int))))]) (os2 := [(7, .box (eMe a2) 54), (8, .box (eV a3) 27), (10, .box [.int (0 : Int), .int (0 : Int)] 27), (12, .box [.own 160] 28), (15, .box (eIns x45) 60), (27, .row 2 (List.map eV v13) 27), (160, .row 2 (List.map eV (v14 ++ [(⟨(4 : Int), (v4.length : Int)⟩ : V)])) 27), (320, .row 3 (List.map eSt v11) 56), (321, .row 1 (List.map eInt v12) 3), (1000, .box [.sl 4 (List.map eCl v3), .sl 2 (List.map eOb v4), .int v5, .int v6, .int v7, .int v8, .int v9, .int v10, .own 320, .own 321] 99), (1001, .gone), (1002, .gone)]) [] ⟨⟨rfl, rfl, (by repeat (first | exact trivial | exact rfl | (refine And.intro ?_ ?_))), rfl, rfl, rfl, rfl, rfl, (by repeat (first | exact trivial | exact rfl | (refine And.intro ?_ ?_))), rfl, rfl, rfl, trivial⟩, ⟨rfl, rfl, rfl, rfl, rfl, rfl, rfl, rfl, rfl, rfl, rfl, rfl, trivial⟩, rfl, rfl⟩ (by rw [hn]; rfl) ?_
      refine god hn (by kernel_rfl) ?_
      refine Or.inr ?_
      refine Exists.intro (List.map eOb ([] : List Ob)) (And.intro (by repeat (first | exact trivial | exact rfl | (refine And.intro ?_ ?_))) ?_)
      obtain ⟨hg110, h60⟩ := guardM h60
      refine appM (l2 := v4) hg110 (leLs_refl _) ?_
      obtain ⟨r111, hr112, h60⟩ := bindM h60
      show CallOk Try.prog _ _ _ _
      refine cA (qcref1_Slots_ok N (⟨v3, v4, v5⟩ : Wd) x45.a r111 hr112) ?_
      obtain ⟨hg113, h60⟩ := guardM h60
      refine mkM (enc := eV) (x := (⟨(0 : Int), (0 : Int)⟩ : V)) hg113 (by repeat (first | exact trivial | exact rfl | (refine And.intro ?_ ?_))) ?_
      refine Or.inr ?_
      refine Exists.intro (List.map eOb [(⟨x45.a, (List.replicate r111.toNat (⟨(0 : Int), (0 : Int)⟩ : V))⟩ : Ob)]) (And.intro (by repeat (first | exact trivial | exact rfl | (refine And.intro ?_ ?_))) ?_)
      obtain ⟨hg114, h60⟩ := guardM h60
      refine appM (l2 := [(⟨x45.a, (List.replicate r111.toNat (⟨(0 : Int), (0 : Int)⟩ : V))⟩ : Ob)]) hg114 (leLs_refl _) ?_
      refine A8 _ _ ?_
      refine A7 _ _ ?_
      obtain rfl := Option.some.inj h60
      refine EOk.fzAll 181 rfl ?_
      exact jn ⟨_, rfl⟩ [(48, 160)]
     refine kp [(0, _), (1, _), (4, _), (7, _), (8, _), (10, _), (11, _), (12, _), (13, _), (14, _), (15, _), (16, _), (42, _)] [(7, _), (8, _), (10, _), (12, _), (15, _), (27, _), (320, _), (321, _), (501, _), (1000, _), (1001, _), (1002, _)] ?_
     refine gos hn ?_
     refine goc hn ?_
     refine bselM h60 (fun hb115 h60 => ?_) (fun hb115 h60 => ?_)
     ·refine gos hn ?_
      refine lenM (fun hl116 => ?_)
      refine Or.inr ?_
      refine COk.seqQ fun _ A11 _ _ => ?_
      refine COk.sub (ts2 := [(0, .ptr 1000 0), (1, .int a1), (4, .sl 2 (List.map eV a4)), (7, .ptr 7 0), (8, .ptr 8 0), (10, .ptr 10 0), (11, .own 27), (12, .ptr 12 0), (13, .fn 110 [.ptr 12 0]), (14, .int v15), (15, .ptr 15 0), (16, .int (wr (v15 + (1 : Int)))), (18, .int (wr ((v14.length : Int) - x45.a)))]) (os2 := [(7, .box (eMe a2) 54), (8, .box (eV a3) 27), (10, .box [.int (0 : Int), .int (0 : Int)] 27), (12, .box [.own 501] 28), (15, .box (eIns x45) 60), (27, .row 2 (List.map eV v13) 27), (320, .row 3 (List.map eSt v11) 56), (321, .row 1 (List.map eInt v12) 3), (501, .row 2 (List.map eV v14) 27), (1000, .box [.sl 4 (List.map eCl v3), .sl 2 (List.map eOb v4), .int v5, .int v6, .int v7, .int v8, .int v9, .int v10, .own 320, .own 321] 99), (1001, .gone), (1002, .gone)]) [] ⟨⟨rfl, rfl, (by repeat (first | exact trivial | exact rfl | (refine And.intro ?_ ?_))), rfl, rfl, rfl, rfl, rfl, (by repeat (first | exact trivial | exact rfl | (refine And.intro ?_ ?_))), rfl, rfl, rfl, rfl, trivial⟩, ⟨rfl, rfl, rfl, rfl, rfl, rfl, rfl, rfl, rfl, rfl, rfl, rfl, trivial⟩, rfl, rfl⟩ (by rw [hn]; rfl) ?_
      refine god hn (by kernel_rfl) ?_
      refine Exists.intro (List.map eV ([] : List V)) (And.intro (by repeat (first | exact trivial | exact rfl | (refine And.intro ?_ ?_))) ?_)
      obtain ⟨hg117, h60⟩ := guardM h60
      refine osrM hg117 rfl rfl ?_
      obtain ⟨hg118, h60⟩ := guardM h60
      refine appM (l2 := (v14.drop ((wr ((v14.length : Int) - x45.a)).toNat))) hg118 (leLs_drop _ _) ?_
      refine Or.inr ?_
      obtain ⟨x119, hx120, h60⟩ := bindM h60
      refine ownM hx120 ?_
      refine ldM (nthO_some hx120).2 ?_
      refine A11 _ _ ?_
      refine kp [(0, _), (1, _), (4, _), (7, _), (8, _), (10, _), (11, _), (12, _), (13, _), (14, _), (15, _), (16, _), (18, _), (19, _), (20, _)] [(7, _), (8, _), (10, _), (12, _), (15, _), (20, _), (27, _), (196, _), (320, _), (321, _), (501, _), (1000, _), (1001, _), (1002, _)] ?_
      refine gos hn ?_
      refine Or.inr ?_
      obtain ⟨hg121, h60⟩ := guardM h60
      refine takeM hg121 rfl rfl ?_
      refine COk.seqQ fun _ A12 _ _ => ?_
      refine kp [(0, _), (1, _), (4, _), (7, _), (8, _), (10, _), (11, _), (12, _), (13, _), (14, _), (15, _), (16, _), (19, _), (20, _)] [(7, _), (8, _), (10, _), (12, _), (15, _), (20, _), (27, _), (196, _), (205, _), (320, _), (321, _), (1000, _), (1001, _), (1002, _)] ?_
      refine god hn (by kernel_rfl) ?_
      obtain ⟨r122, hr123, h60⟩ := bindM h60
      show CallOk Try.prog _ _ _ _
      refine cA (qcref1_Class_ok N v4 x119 r122 hr123) ?_
      refine A12 _ _ ?_
      refine COk.seqQ fun _ A13 _ _ => ?_
      refine COk.sub (ts2 := [(0, .ptr 1000 0), (1, .int a1), (4, .sl 2 (List.map eV a4)), (7, .ptr 7 0), (8, .ptr 8 0), (10, .ptr 10 0), (11, .own 27), (12, .ptr 12 0), (13, .fn 110 [.ptr 12 0]), (14, .int v15), (15, .ptr 15 0), (16, .int (wr (v15 + (1 : Int)))), (19, .own 196), (20, .ptr 20 0), (21, .int r122)]) (os2 := [(7, .box (eMe a2) 54), (8, .box (eV a3) 27), (10, .box [.int (0 : Int), .int (0 : Int)] 27), (12, .box [.own 205] 28), (15, .box (eIns x45) 60), (20, .box (eV x119) 27), (27, .row 2 (List.map eV v13) 27), (196, .row 2 (List.map eV (([] : List V) ++ (v14.drop ((wr ((v14.length : Int) - x45.a)).toNat)))) 27), (205, .row 2 (List.map eV (v14.take (wr ((wr ((v14.length : Int) - x45.a)) - (1 : Int))).toNat)) 27), (320, .row 3 (List.map eSt v11) 56), (321, .row 1 (List.map eInt v12) 3), (1000, .box [.sl 4 (List.map eCl v3), .sl 2 (List.map eOb v4), .int v5, .int v6, .int v7, .int v8, .int v9, .int v10, .own 320, .own 321] 99), (1001, .gone), (1002, .gone)]) [] ⟨⟨rfl, rfl, (by repeat (first | exact trivial | exact rfl | (refine And.intro ?_ ?_))), rfl, rfl, rfl, rfl, rfl, (by repeat (first | exact trivial | exact rfl | (refine And.intro ?_ ?_))), rfl, rfl, rfl, rfl, rfl, rfl, trivial⟩, ⟨rfl, rfl, rfl, rfl, rfl, rfl, rfl, rfl, rfl, rfl, rfl, rfl, rfl, rfl, trivial⟩, rfl, rfl⟩ (by rw [hn]; rfl) ?_
      refine god hn (by kernel_rfl) ?_
      refine Exists.intro (List.map eSt [(⟨a1, a2.name, v15⟩ : St)]) (And.intro (by repeat (first | exact trivial | exact rfl | (refine And.intro ?_ ?_))) ?_)
      obtain ⟨hg124, h60⟩ := guardM h60
      refine appM (l2 := [(⟨a1, a2.name, v15⟩ : St)]) hg124 (leLs_refl _) ?_
      refine Exists.intro (List.map eInt [r122]) (And.intro (by repeat (first | exact trivial | exact rfl | (refine And.intro ?_ ?_))) ?_)
      obtain ⟨hg125, h60⟩ := guardM h60
      refine appM (l2 := [r122]) hg125 (leLs_refl _) ?_
      refine A13 _ _ ?_
      refine COk.seqQ fun _ A14 _ _ => ?_
      refine COk.sub (ts2 := [(0, .ptr 1000 0), (1, .int a1), (4, .sl 2 (List.map eV a4)), (7, .ptr 7 0), (8, .ptr 8 0), (10, .ptr 10 0), (11, .own 27), (12, .ptr 12 0), (13, .fn 110 [.ptr 12 0]), (14, .int v15), (15, .ptr 15 0), (16, .int (wr (v15 + (1 : Int)))), (19, .own 196), (20, .ptr 20 0), (21, .int r122)]) (os2 := [(7, .box (eMe a2) 54), (8, .box (eV a3) 27), (10, .box [.int (0 : Int), .int (0 : Int)] 27), (12, .box [.own 205] 28), (15, .box (eIns x45) 60), (20, .box (eV x119) 27), (27, .row 2 (List.map eV v13) 27), (196, .row 2 (List.map eV (([] : List V) ++ (v14.drop ((wr ((v14.length : Int) - x45.a)).toNat)))) 27), (205, .row 2 (List.map eV (v14.take (wr ((wr ((v14.length : Int) - x45.a)) - (1 : Int))).toNat)) 27), (225, .row 3 (List.map eSt (v11 ++ [(⟨a1, a2.name, v15⟩ : St)])) 56), (232, .row 1 (List.map eInt (v12 ++ [r122])) 3), (1000, .box [.sl 4 (List.map eCl v3), .sl 2 (List.map eOb v4), .int v5, .int v6, .int v7, .int v8, .int v9, .int v10, .own 225, .own 232] 99), (1001, .gone), (1002, .gone)]) [] ⟨⟨rfl, rfl, (by repeat (first | exact trivial | exact rfl | (refine And.intro ?_ ?_))), rfl, rfl, rfl, rfl, rfl, (by repeat (first | exact trivial | exact rfl | (refine And.intro ?_ ?_))), rfl, rfl, rfl, rfl, rfl, rfl, trivial⟩, ⟨rfl, rfl, rfl, rfl, rfl, rfl, rfl, rfl, rfl, rfl, rfl, rfl, rfl, rfl, trivial⟩, rfl, rfl⟩ (by rw [hn]; rfl) ?_
      refine god hn (by kernel_rfl) ?_
      obtain ⟨r126, hr127, h60⟩ := bindM h60
      show CallOk Try.prog _ _ _ _
      refine cA (qcref1_Find_ok N (⟨v3, v4, v5⟩ : Wd) r122 x45.name r126 hr127) ?_
      refine A14 _ _ ?_
      refine COk.seqQ fun _ A15 X15 _ => ?_
      refine kp [(0, _), (1, _), (4, _), (7, _), (8, _), (10, _), (11, _), (12, _), (13, _), (14, _), (16, _), (19, _), (20, _), (22, _), (23, _)] [(7, _), (8, _), (10, _), (12, _), (20, _), (27, _), (196, _), (205, _), (225, _), (232, _), (1000, _), (1001, _), (1002, _)] ?_
      refine gos hn ?_
      refine goc hn ?_
      refine bselM h60 (fun hb128 h60 => ?_) (fun hb128 h60 => ?_)
      ·refine kp [(0, _), (1, _), (4, _), (7, _), (8, _), (10, _), (11, _), (12, _), (13, _), (14, _), (16, _)] [(7, _), (8, _), (10, _), (12, _), (27, _), (205, _), (225, _), (232, _), (1000, _), (1001, _), (1002, _)] ?_
       refine gos hn ?_
       refine goe hn ?_
       refine X15 _ _ _ ?_
       refine E8 _ _ ?_
       refine A7 _ _ ?_
       obtain rfl := Option.some.inj h60
       exact jn ⟨_, rfl⟩ [(320, 225), (321, 232), (48, 205)]
      refine gok hn ?_
      refine A15 _ _ ?_
      refine COk.sub (ts2 := [(0, .ptr 1000 0), (1, .int a1), (4, .sl 2 (List.map eV a4)), (7, .ptr 7 0), (8, .ptr 8 0), (10, .ptr 10 0), (11, .own 27), (12, .ptr 12 0), (13, .fn 110 [.ptr 12 0]), (14, .int v15), (16, .int (wr (v15 + (1 : Int)))), (19, .own 196), (20, .ptr 20 0), (22, .int r126.1), (23, .int r126.2)]) (os2 := [(7, .box (eMe a2) 54), (8, .box (eV a3) 27), (10, .box [.int (0 : Int), .int (0 : Int)] 27), (12, .box [.own 205] 28), (20, .box (eV x119) 27), (27, .row 2 (List.map eV v13) 27), (196, .row 2 (List.map eV (([] : List V) ++ (v14.drop ((wr ((v14.length : Int) - x45.a)).toNat)))) 27), (205, .row 2 (List.map eV (v14.take (wr ((wr ((v14.length : Int) - x45.a)) - (1 : Int))).toNat)) 27), (225, .row 3 (List.map eSt (v11 ++ [(⟨a1, a2.name, v15⟩ : St)])) 56), (232, .row 1 (List.map eInt (v12 ++ [r122])) 3), (1000, .box [.sl 4 (List.map eCl v3), .sl 2 (List.map eOb v4), .int v5, .int v6, .int v7, .int v8, .int v9, .int v10, .own 225, .own 232] 99), (1001, .gone), (1002, .gone)]) [] ⟨⟨rfl, rfl, (by repeat (first | exact trivial | exact rfl | (refine And.intro ?_ ?_))), rfl, rfl, rfl, rfl, rfl, (by repeat (first | exact trivial | exact rfl | (refine And.intro ?_ ?_))), rfl, rfl, rfl, rfl, rfl, rfl, trivial⟩, ⟨rfl, rfl, rfl, rfl, rfl, rfl, rfl, rfl, rfl, rfl, rfl, rfl, rfl, trivial⟩, rfl, rfl⟩ (by rw [hn]; rfl) ?_
      refine god hn (by kernel_rfl) ?_
      obtain ⟨r129, hr130, h60⟩ := bindM h60
      show CallOk Try.prog _ _ _ _
      refine cF ((hgR N (⟨(⟨v3, v4, v5⟩ : Wd), v6, v7, v8, v9, v10, (v11 ++ [(⟨a1, a2.name, v15⟩ : St)]), (v12 ++ [r122])⟩ : TR) r126.1 r126.2 x119 (([] : List V) ++ (v14.drop ((wr ((v14.length : Int) - x45.a)).toNat))) r129 hr130).swl [(1001, 225), (1002, 232), (2, 508), (3, 509)] rfl) ?_
      refine Exists.intro (List.map eV [r129.1]) (And.intro (by repeat (first | exact trivial | exact rfl | (refine And.intro ?_ ?_))) ?_)
      obtain ⟨hg131, h60⟩ := guardM h60
      refine appM (l2 := [r129.1]) hg131 (leLs_refl _) ?_
      refine A8 _ _ ?_
      refine A7 _ _ ?_
      obtain rfl := Option.some.inj h60
      exact jn ⟨_, rfl⟩ [(320, 508), (321, 509), (48, 261)]
     refine gos hn ?_
     obtain ⟨o136, h135, h60⟩ := bindM h60
     refine COk.joinR (ι := { s // o136 = Ctl.next s }) (fun s => [(0, .ptr 1000 0), (1, .int a1), (4, .sl 2 (List.map eV a4)), (7, .ptr 7 0), (8, .ptr 8 0), (10, .ptr 10 0), (11, .own 27), (12, .ptr 12 0), (13, .fn 110 [.ptr 12 0]), (14, .int v15), (16, .int s.1.2.2)]) (fun s => [(7, .box (eMe a2) 54), (8, .box (eV a3) 27), (10, .box [.int (0 : Int), .int (0 : Int)] 27), (12, .box [.own 501] 28), (27, .row 2 (List.map eV v13) 27), (320, .row 3 (List.map eSt v11) 56), (321, .row 1 (List.map eInt v12) 3), (501, .row 2 (List.map eV s.1.2.1) 27), (1000, .box [.sl 4 (List.map eCl v3), .sl 2 (List.map eOb v4), .int v5, .int v6, .int v7, .int v8, .int v9, .int s.1.1, .own 320, .own 321] 99), (1001, .gone), (1002, .gone)]) (fun _ A16 _ R16 => ?_) (by intro s; rw [hn]; rfl) ?_
     ·refine goc hn ?_
      refine bselM h135 (fun hb137 h135 => ?_) (fun hb137 h135 => ?_)
      ·refine kp [(0, _), (1, _), (4, _), (7, _), (8, _), (10, _), (11, _), (12, _), (13, _), (14, _), (15, _)] [(7, _), (8, _), (10, _), (12, _), (15, _), (27, _), (320, _), (321, _), (501, _), (1000, _), (1001, _), (1002, _)] ?_
       refine gor hn ?_
       refine A16 _ _ ?_
       obtain rfl := Option.some.inj h135
       exact jn ⟨_, rfl⟩ []
      refine kp [(0, _), (1, _), (4, _), (7, _), (8, _), (10, _), (11, _), (12, _), (13, _), (14, _), (15, _), (16, _), (42, _)] [(7, _), (8, _), (10, _), (12, _), (15, _), (27, _), (320, _), (321, _), (501, _), (1000, _), (1001, _), (1002, _)] ?_
      refine gos hn ?_
      obtain ⟨o142, h141, h135⟩ := bindM h135
      refine COk.joinR (ι := { s // o142 = Ctl.next s }) (fun s => [(0, .ptr 1000 0), (1, .int a1), (4, .sl 2 (List.map eV a4)), (7, .ptr 7 0), (8, .ptr 8 0), (10, .ptr 10 0), (11, .own 27), (12, .ptr 12 0), (13, .fn 110 [.ptr 12 0]), (14, .int v15), (16, .int s.1.2.2)]) (fun s => [(7, .box (eMe a2) 54), (8, .box (eV a3) 27), (10, .box [.int (0 : Int), .int (0 : Int)] 27), (12, .box [.own 510] 28), (27, .row 2 (List.map eV v13) 27), (320, .row 3 (List.map eSt v11) 56), (321, .row 1 (List.map eInt v12) 3), (510, .row 2 (List.map eV s.1.2.1) 27), (1000, .box [.sl 4 (List.map eCl v3), .sl 2 (List.map eOb v4), .int v5, .int v6, .int v7, .int v8, .int v9, .int s.1.1, .own 320, .own 321] 99), (1001, .gone), (1002, .gone)]) (fun _ A17 _ R17 => ?_) (by intro s; rw [hn]; rfl) ?_
      ·refine goc hn ?_
       refine bselM h141 (fun hb143 h141 => ?_) (fun hb143 h141 => ?_)
       ·refine gos hn ?_
        obtain ⟨r144, hr145, h141⟩ := bindM h141
        show CallOk Try.prog _ _ _ _
        refine cA ((((qcref5_R_Body_1_ok N v14 r144 hr145).sw 1000 12).sw 1001 501).sw 2 510) ?_
        refine kp [(0, _), (1, _), (4, _), (7, _), (8, _), (10, _), (11, _), (12, _), (13, _), (14, _), (15, _), (16, _), (24, _)] [(7, _), (8, _), (10, _), (12, _), (15, _), (24, _), (27, _), (320, _), (321, _), (510, _), (1000, _), (1001, _), (1002, _)] ?_
        refine gos hn ?_
        obtain ⟨o149, h148, h141⟩ := bindM h141
        refine COk.joinR (ι := { s // o149 = s }) (fun s => [(0, .ptr 1000 0), (1, .int a1), (4, .sl 2 (List.map eV a4)), (7, .ptr 7 0), (8, .ptr 8 0), (10, .ptr 10 0), (11, .own 27), (12, .ptr 12 0), (13, .fn 110 [.ptr 12 0]), (14, .int v15), (16, .int s.1.2)]) (fun s => [(7, .box (eMe a2) 54), (8, .box (eV a3) 27), (10, .box [.int (0 : Int), .int (0 : Int)] 27), (12, .box [.own 510] 28), (27, .row 2 (List.map eV v13) 27), (320, .row 3 (List.map eSt v11) 56), (321, .row 1 (List.map eInt v12) 3), (510, .row 2 (List.map eV r144.2) 27), (1000, .box [.sl 4 (List.map eCl v3), .sl 2 (List.map eOb v4), .int v5, .int v6, .int v7, .int v8, .int v9, .int s.1.1, .own 320, .own 321] 99), (1001, .gone), (1002, .gone)]) (fun _ A18 _ _ => ?_) (by intro s; rw [hn]; rfl) ?_
        ·refine goc hn ?_
         refine bselM h148 (fun hb150 h148 => ?_) (fun hb150 h148 => ?_)
         ·refine gor hn ?_
          refine A18 _ _ ?_
          obtain rfl := Option.some.inj h148
          exact jn ⟨_, rfl⟩ []
         refine gos hn ?_
         obtain ⟨o153, h152, h148⟩ := bindM h148
         refine COk.joinR (ι := { s // o153 = s }) (fun s => [(0, .ptr 1000 0), (1, .int a1), (4, .sl 2 (List.map eV a4)), (7, .ptr 7 0), (8, .ptr 8 0), (10, .ptr 10 0), (11, .own 27), (12, .ptr 12 0), (13, .fn 110 [.ptr 12 0]), (14, .int v15), (16, .int (wr (v15 + (1 : Int))))]) (fun s => [(7, .box (eMe a2) 54), (8, .box (eV a3) 27), (10, .box [.int (0 : Int), .int (0 : Int)] 27), (12, .box [.own 510] 28), (27, .row 2 (List.map eV v13) 27), (320, .row 3 (List.map eSt v11) 56), (321, .row 1 (List.map eInt v12) 3), (510, .row 2 (List.map eV r144.2) 27), (1000, .box [.sl 4 (List.map eCl v3), .sl 2 (List.map eOb v4), .int v5, .int v6, .int v7, .int v8, .int v9, .int s.1, .own 320, .own 321] 99), (1001, .gone), (1002, .gone)]) (fun _ A19 _ _ => ?_) (by intro s; rw [hn]; rfl) ?_
         ·refine goc hn ?_
          refine bselM h152 (fun hb154 h152 => ?_) (fun hb154 h152 => ?_)
          ·refine kp [(0, _), (1, _), (4, _), (7, _), (8, _), (10, _), (11, _), (12, _), (13, _), (14, _), (16, _)] [(7, _), (8, _), (10, _), (12, _), (27, _), (320, _), (321, _), (510, _), (1000, _), (1001, _), (1002, _)] ?_
           refine gor hn ?_
           refine A19 _ _ ?_
           obtain rfl := Option.some.inj h152
           exact jn ⟨_, rfl⟩ []
          refine gok hn ?_
          refine A19 _ _ ?_
          obtain rfl := Option.some.inj h152
          exact jn ⟨_, rfl⟩ []
         rintro ⟨v151, hv_⟩
         replace hv_ := hv_.symm
         subst hv_
         refine A18 _ _ ?_
         obtain rfl := Option.some.inj h148
         exact jn ⟨_, rfl⟩ []
        rintro ⟨⟨v146, v147⟩, rfl⟩
        refine A17 _ _ ?_
        obtain rfl := Option.some.inj h141
        exact jn ⟨_, rfl⟩ []
       refine gos hn ?_
       refine goc hn ?_
       refine bselM h141 (fun hb155 h141 => ?_) (fun hb155 h141 => ?_)
       ·refine kp [(0, _), (10, _), (13, _)] [(10, _), (12, _), (320, _), (321, _), (501, _), (1000, _), (1001, _), (1002, _)] ?_
        refine gos hn ?_
        obtain ⟨r156, hr157, h141⟩ := bindM h141
        show CallOk Try.prog _ _ _ _
        refine cA ((((qcref5_R_Body_1_ok N v14 r156 hr157).sw 1000 12).sw 1001 501).sw 2 511) ?_
        refine got hn ?_
        refine R17 _ _ ?_
        refine R16 _ _ ?_
        refine R8 _ _ ?_
        refine R7 _ _ ?_
        refine R6 _ _ ?_
        refine R5 _ _ ?_
        refine R3 _ _ ?_
        refine R2 _ _ ?_
        refine R1 _ _ ?_
        refine R0 _ _ ?_
        obtain rfl := Option.some.inj h141
        obtain rfl := Option.some.inj h135
        obtain rfl := Option.some.inj h60
        obtain rfl := Option.some.inj h40
        obtain rfl := Option.some.inj h
        exact ⟨[(2, 320), (3, 321)], _, fm⟩
       refine gok hn ?_
       refine A17 _ _ ?_
       obtain rfl := Option.some.inj h141
       exact jn ⟨_, rfl⟩ [(510, 501)]
      rintro ⟨⟨v138, v139, v140⟩, rfl⟩
      refine A16 _ _ ?_
      obtain rfl := Option.some.inj h135
      exact jn ⟨_, rfl⟩ [(501, 510)]
     rintro ⟨⟨v132, v133, v134⟩, rfl⟩
     refine A8 _ _ ?_
     refine A7 _ _ ?_
     obtain rfl := Option.some.inj h60
     exact jn ⟨_, rfl⟩ [(48, 501)]
    rintro ⟨⟨v47, v48, v49, v50, v51, v52, v53, v54, v55, v56, v57, v58, v59⟩, rfl⟩
    refine A6 _ _ ?_
    refine COk.seqQ fun _ A20 _ _ => ?_
    refine gos hn ?_
    obtain ⟨o161, h160, h40⟩ := bindM h40
    refine COk.joinR (ι := { s // o161 = s }) (fun s => [(0, .ptr 1000 0), (1, .int a1), (4, .sl 2 (List.map eV a4)), (7, .ptr 7 0), (8, .ptr 8 0), (10, .ptr 10 0), (11, .own 27), (12, .ptr 12 0), (13, .fn 110 [.ptr 12 0]), (16, .int v59)]) (fun s => [(7, .box (eMe a2) 54), (8, .box (eV a3) 27), (10, .box [.int (0 : Int), .int (0 : Int)] 27), (12, .box [.own 48] 28), (27, .row 2 (List.map eV v57) 27), (48, .row 2 (List.map eV v58) 27), (320, .row 3 (List.map eSt v55) 56), (321, .row 1 (List.map eInt v56) 3), (1000, .box [.sl 4 (List.map eCl v47), .sl 2 (List.map eOb v48), .int v49, .int v50, .int v51, .int s.1.1, .int v53, .int s.1.2, .own 320, .own 321] 99), (1001, .gone), (1002, .gone)]) (fun _ A21 _ _ => ?_) (by intro s; rw [hn]; rfl) ?_
    ·refine goc hn ?_
     refine bselM h160 (fun hb162 h160 => ?_) (fun hb162 h160 => ?_)
     ·refine gos hn ?_
      refine Or.inr ?_
      refine kp [(0, _), (1, _), (4, _), (7, _), (8, _), (10, _), (11, _), (12, _), (13, _), (16, _)] [(7, _), (8, _), (10, _), (12, _), (27, _), (48, _), (320, _), (321, _), (1000, _), (1001, _), (1002, _)] ?_
      refine gos hn ?_
      obtain ⟨o165, h164, h160⟩ := bindM h160
      refine COk.joinR (ι := { s // o165 = s }) (fun s => [(0, .ptr 1000 0), (1, .int a1), (4, .sl 2 (List.map eV a4)), (7, .ptr 7 0), (8, .ptr 8 0), (10, .ptr 10 0), (11, .own 27), (12, .ptr 12 0), (13, .fn 110 [.ptr 12 0]), (16, .int v59)]) (fun s => [(7, .box (eMe a2) 54), (8, .box (eV a3) 27), (10, .box [.int (0 : Int), .int (0 : Int)] 27), (12, .box [.own 48] 28), (27, .row 2 (List.map eV v57) 27), (48, .row 2 (List.map eV v58) 27), (320, .row 3 (List.map eSt v55) 56), (321, .row 1 (List.map eInt v56) 3), (1000, .box [.sl 4 (List.map eCl v47), .sl 2 (List.map eOb v48), .int v49, .int v50, .int v51, .int (wr (v52 + (1 : Int))), .int v53, .int s.1, .own 320, .own 321] 99), (1001, .gone), (1002, .gone)]) (fun _ A22 _ _ => ?_) (by intro s; rw [hn]; rfl) ?_
      ·refine goc hn ?_
       refine bselM h164 (fun hb166 h164 => ?_) (fun hb166 h164 => ?_)
       ·refine gor hn ?_
        refine A22 _ _ ?_
        obtain rfl := Option.some.inj h164
        exact jn ⟨_, rfl⟩ []
       refine gok hn ?_
       refine A22 _ _ ?_
       obtain rfl := Option.some.inj h164
       exact jn ⟨_, rfl⟩ []
      rintro ⟨v163, hv_⟩
      replace hv_ := hv_.symm
      subst hv_
      refine A21 _ _ ?_
      obtain rfl := Option.some.inj h160
      exact jn ⟨_, rfl⟩ []
     refine gok hn ?_
     refine A21 _ _ ?_
     obtain rfl := Option.some.inj h160
     exact jn ⟨_, rfl⟩ []
    rintro ⟨⟨v158, v159⟩, rfl⟩
    refine A20 _ _ ?_
    refine gor hn ?_
    refine A5 _ _ ?_
    refine A3 _ _ ?_
    exact jn ⟨(n43, v47, v48, v49, v50, v51, v158, v53, v159, v55, v56, v57, v58, v59), h40⟩ [(501, 48)] (by show n43 < n43 + 1; omega)
   refine goe hn ?_
   refine X4 _ _ _ ?_
   refine X3 _ _ _ ?_
   refine E2 _ _ ?_
   refine A1 _ _ ?_
   obtain rfl := Option.some.inj h40
   exact jn ⟨_, rfl⟩ []
 rintro ⟨⟨v29, v30, v31, v32, v33, v34, v35, v36, v37, v38⟩, rfl⟩
 refine A0 _ _ ?_
 refine gos hn ?_
 refine got hn ?_
 obtain rfl := Option.some.inj h
 exact ⟨[(2, 320), (3, 321)], _, fm⟩

/- (*qcref5.R).Enter! -/
set_option maxRecDepth 100000 in
theorem qcref5_R_Enter_r_ok (N n : Nat) (a0 : TR) (a1 : Int) (a2 : Int) (a3 : V) (a4 : (List V)) (r : (V × TR)) (h : qcref5_R_Enter_r N n a0 a1 a2 a3 a4 = some r) : Spec Try.prog 46 [(1000, .box [.sl 4 (List.map eCl a0.w.classes), .sl 2 (List.map eOb a0.w.heap), .int a0.w.epoch, .int a0.fuel, .int a0.sends, .int a0.turns, .int a0.deep, .int a0.err, .own 1001, .own 1002] 99), (1001, .row 3 (List.map eSt a0.sites) 56), (1002, .row 1 (List.map eInt a0.of) 3)] [.ptr 1000 0, .int a1, .int a2, .agg (eV a3), .sl 2 (List.map eV a4)] (.agg (eV r.1)) [(1000, .box [.sl 4 (List.map eCl r.2.w.classes), .sl 2 (List.map eOb r.2.w.heap), .int r.2.w.epoch, .int r.2.fuel, .int r.2.sends, .int r.2.turns, .int r.2.deep, .int r.2.err, .own 2, .own 3] 99), (2, .row 3 (List.map eSt r.2.sites) 56), (1001, .gone), (3, .row 1 (List.map eInt r.2.of) 3), (1002, .gone)] [2, 3] := by
  induction n generalizing a0 a1 a2 a3 a4 r with
  | zero =>
    have h : (none : Option (V × TR)) = some r := h
    cases h
  | succ n ih => exact qcref5_R_Enter_f_ok N _ a0 a1 a2 a3 a4 (fun _ y0_ y1_ y2_ y3_ y4_ r h => qcref5_R_Body_f_ok N _ y0_ y1_ y2_ y3_ y4_ (fun _ x0_ x1_ x2_ x3_ x4_ r h => ih x0_ x1_ x2_ x3_ x4_ r h) r h) r h

/- (*qcref5.R).Enter!! -/
set_option maxRecDepth 100000 in
theorem qcref5_R_Enter_ok (N : Nat) (a0 : TR) (a1 : Int) (a2 : Int) (a3 : V) (a4 : (List V)) (r : (V × TR)) (h : qcref5_R_Enter N a0 a1 a2 a3 a4 = some r) : Spec Try.prog 46 [(1000, .box [.sl 4 (List.map eCl a0.w.classes), .sl 2 (List.map eOb a0.w.heap), .int a0.w.epoch, .int a0.fuel, .int a0.sends, .int a0.turns, .int a0.deep, .int a0.err, .own 1001, .own 1002] 99), (1001, .row 3 (List.map eSt a0.sites) 56), (1002, .row 1 (List.map eInt a0.of) 3)] [.ptr 1000 0, .int a1, .int a2, .agg (eV a3), .sl 2 (List.map eV a4)] (.agg (eV r.1)) [(1000, .box [.sl 4 (List.map eCl r.2.w.classes), .sl 2 (List.map eOb r.2.w.heap), .int r.2.w.epoch, .int r.2.fuel, .int r.2.sends, .int r.2.turns, .int r.2.deep, .int r.2.err, .own 2, .own 3] 99), (2, .row 3 (List.map eSt r.2.sites) 56), (1001, .gone), (3, .row 1 (List.map eInt r.2.of) 3), (1002, .gone)] [2, 3] := by
  exact qcref5_R_Enter_r_ok N N a0 a1 a2 a3 a4 r h

/- qcref5.Run -/
set_option maxRecDepth 100000 in
set_option maxHeartbeats 8000000 in
theorem qcref5_Run_ok (N : Nat) (a0 : Wd) (a1 : TCall) (a2 : Int) (r : (Wd × TRan × TR)) (h : qcref5_Run N a0 a1 a2 = some r) : Spec Try.prog 15 [] [.agg (eWd a0), .agg (eTCall a1), .int a2] (.tup [.agg (eWd r.1), .agg (eTRan r.2.1), .fp (eTR r.2.2)]) [] [] := by
 refine Spec.of tabOk Try.func15 rfl Try.ntmps15 (by kernel_rfl) rfl rfl rfl fun Γ hn => ?_
 unfold qcref5_Run at h
 refine gos hn ?_
 refine gos hn ?_
 refine COk.seqQ fun _ A0 _ R0 => ?_
 refine gos hn ?_
 obtain ⟨r1, hr2, h⟩ := bindM h
 show CallOk Try.prog _ _ _ _
 refine cA (qcref5_WrongCall_ok N a0 a1 a2 r1 hr2) ?_
 refine kp [(3, _), (4, _), (6, _), (7, _), (9, _), (10, _)] [(3, _), (4, _), (6, _), (7, _), (17, _)] ?_
 refine gos hn ?_
 refine goc hn ?_
 refine bselM h (fun hb3 h => ?_) (fun hb3 h => ?_)
 ·refine gos hn ?_
  refine COk.nilrowB 17 8 501 3 56 rfl rfl rfl rfl rfl rfl ?_
  refine COk.nilrowB 17 9 502 1 3 rfl rfl rfl rfl rfl rfl ?_
  refine COk.fzAll 501 rfl ?_
  refine COk.fzAll 502 rfl ?_
  refine COk.gh (Gh.fzBox 8 17 rfl rfl rfl) (fun _ => ?_)
  refine got hn ?_
  refine R0 _ _ ?_
  obtain rfl := Option.some.inj h
  exact ⟨[], _, fm⟩
 refine gok hn ?_
 refine A0 _ _ ?_
 refine COk.seqQ fun _ A1 _ _ => ?_
 refine god hn (by kernel_rfl) ?_
 obtain ⟨r4, hr5, h⟩ := bindM h
 show CallOk Try.prog _ _ _ _
 refine cA (qcref1_Class_ok N a0.heap a1.self_ r4 hr5) ?_
 obtain ⟨r6, hr7, h⟩ := bindM h
 show CallOk Try.prog _ _ _ _
 refine cA (qcref1_Find_ok N a0 r4 a1.name r6 hr7) ?_
 refine A1 _ _ ?_
 refine COk.seqQ fun _ A2 _ R2 => ?_
 refine kp [(3, _), (4, _), (6, _), (7, _), (9, _), (11, _), (12, _)] [(3, _), (4, _), (6, _), (7, _), (17, _)] ?_
 refine gos hn ?_
 refine goc hn ?_
 refine bselM h (fun hb8 h => ?_) (fun hb8 h => ?_)
 ·refine gos hn ?_
  refine COk.nilrowB 17 8 503 3 56 rfl rfl rfl rfl rfl rfl ?_
  refine COk.nilrowB 17 9 504 1 3 rfl rfl rfl rfl rfl rfl ?_
  refine COk.fzAll 503 rfl ?_
  refine COk.fzAll 504 rfl ?_
  refine COk.gh (Gh.fzBox 8 17 rfl rfl rfl) (fun _ => ?_)
  refine got hn ?_
  refine R2 _ _ ?_
  obtain rfl := Option.some.inj h
  exact ⟨[], _, fm⟩
 refine gok hn ?_
 refine A2 _ _ ?_
 refine COk.nilrowB 17 8 505 3 56 rfl rfl rfl rfl rfl rfl ?_
 refine COk.nilrowB 17 9 506 1 3 rfl rfl rfl rfl rfl rfl ?_
 refine kp [(3, _), (4, _), (6, _), (7, _), (9, _), (11, _), (12, _)] [(3, _), (4, _), (6, _), (7, _), (17, _), (505, _), (506, _)] ?_
 refine gos hn ?_
 obtain ⟨r9, hr10, h⟩ := bindM h
 show CallOk Try.prog _ _ _ _
 refine cA ((qcref5_R_Enter_ok N (⟨a0, a2, (0 : Int), (0 : Int), (0 : Int), (0 : Int), ([] : List St), ([] : List Int)⟩ : TR) r6.1 r6.2 a1.self_ a1.args r9 hr10).swl [(1000, 17), (1001, 505), (1002, 506), (2, 507), (3, 508)] rfl) ?_
 refine COk.seqQ fun _ A3 _ R3 => ?_
 refine gos hn ?_
 refine goc hn ?_
 refine bselM h (fun hb11 h => ?_) (fun hb11 h => ?_)
 ·refine COk.seqQ fun _ A4 _ _ => ?_
  refine COk.sub (ts2 := [(3, .ptr 3 0), (6, .ptr 6 0), (7, .ptr 7 0), (9, .ptr 17 0)]) (os2 := [(3, .box (eWd a0) 25), (6, .box [.nilsl, .nilsl, .int (0 : Int)] 25), (7, .box [.int (0 : Int), .int (0 : Int), .int (0 : Int), .int (0 : Int)] 34), (17, .box [.sl 4 (List.map eCl r9.2.w.classes), .sl 2 (List.map eOb r9.2.w.heap), .int r9.2.w.epoch, .int r9.2.fuel, .int r9.2.sends, .int r9.2.turns, .int r9.2.deep, .int r9.2.err, .own 507, .own 508] 99), (507, .row 3 (List.map eSt r9.2.sites) 56), (508, .row 1 (List.map eInt r9.2.of) 3)]) [] ⟨⟨rfl, rfl, rfl, rfl, trivial⟩, ⟨rfl, rfl, rfl, rfl, rfl, rfl, trivial⟩, rfl, rfl⟩ (by rw [hn]; rfl) ?_
  refine god hn (by kernel_rfl) ?_
  refine A4 _ _ ?_
  refine COk.fzAll 507 rfl ?_
  refine COk.fzAll 508 rfl ?_
  refine COk.gh (Gh.fzBox 8 17 rfl rfl rfl) (fun _ => ?_)
  refine got hn ?_
  refine R3 _ _ ?_
  obtain rfl := Option.some.inj h
  exact ⟨[], _, fm⟩
 refine gok hn ?_
 refine A3 _ _ ?_
 refine COk.seqQ fun _ A5 _ _ => ?_
 refine COk.sub (ts2 := [(6, .ptr 6 0), (7, .ptr 7 0), (9, .ptr 17 0), (13, .ptr 13 0)]) (os2 := [(6, .box [.nilsl, .nilsl, .int (0 : Int)] 25), (7, .box [.int (0 : Int), .int (0 : Int), .int (0 : Int), .int (0 : Int)] 34), (13, .box (eV r9.1) 27), (17, .box [.sl 4 (List.map eCl r9.2.w.classes), .sl 2 (List.map eOb r9.2.w.heap), .int r9.2.w.epoch, .int r9.2.fuel, .int r9.2.sends, .int r9.2.turns, .int r9.2.deep, .int r9.2.err, .own 507, .own 508] 99), (507, .row 3 (List.map eSt r9.2.sites) 56), (508, .row 1 (List.map eInt r9.2.of) 3)]) [] ⟨⟨rfl, rfl, rfl, rfl, trivial⟩, ⟨rfl, rfl, rfl, rfl, rfl, rfl, trivial⟩, rfl, rfl⟩ (by rw [hn]; rfl) ?_
 refine god hn (by kernel_rfl) ?_
 refine A5 _ _ ?_
 refine COk.fzAll 507 rfl ?_
 refine COk.fzAll 508 rfl ?_
 refine COk.gh (Gh.fzBox 8 17 rfl rfl rfl) (fun _ => ?_)
 refine got hn ?_
 obtain rfl := Option.some.inj h
 exact ⟨[], _, fm⟩

/- qcref1.SameCode -/
set_option maxRecDepth 100000 in
set_option maxHeartbeats 8000000 in
theorem qcref1_SameCode_ok (N : Nat) (a0 : (List Ins)) (a1 : (List Ins)) (r : Bool) (h : qcref1_SameCode N a0 a1 = some r) : Spec Try.prog 49 [] [.sl 5 (List.map eIns a0), .sl 5 (List.map eIns a1)] (.bool r) [] [] := by
 refine Spec.of tabOk Try.func49 rfl Try.ntmps49 (by kernel_rfl) rfl rfl rfl fun Γ hn => ?_
 unfold qcref1_SameCode at h
 refine gos hn ?_
 refine COk.seqQ fun _ A0 _ R0 => ?_
 refine gos hn ?_
 refine lenM (fun hl1 => ?_)
 refine lenM (fun hl2 => ?_)
 refine goc hn ?_
 refine bselM h (fun hb3 h => ?_) (fun hb3 h => ?_)
 ·refine gos hn ?_
  refine got hn ?_
  refine R0 _ _ ?_
  obtain rfl := Option.some.inj h
  exact ⟨[], _, fm⟩
 refine gok hn ?_
 refine A0 _ _ ?_
 refine COk.seqQ fun _ A1 _ R1 => ?_
 refine gos hn ?_
 refine lenM (fun hl4 => ?_)
 obtain ⟨o6, h7, h⟩ := bindM h
 refine COk.joinR (ι := { s // o6 = Ctl.next s }) (fun s => []) (fun s => []) (fun _ A2 _ R2 => ?_) (by intro s; rw [hn]; rfl) ?_
 ·refine COk.blkQ fun _ _ E3 _ R3 => ?_
  refine COk.loopQ (ι := { q : ((List Ins) × Nat) // q.1 = a0.drop q.2 ∧ qcref1_SameCode_l1 N a1 q.1 q.2 = some o6 }) (fun q => [(0, .sl 5 (List.map eIns a0)), (1, .sl 5 (List.map eIns a1)), (12, .int (a0.length : Int)), (13, .int (q.1.2 : Int))]) (fun q => []) (fun q => q.1.1.length) ⟨(a0, 0), rfl, h7⟩ [] ⟨⟨(by repeat (first | exact trivial | exact rfl | (refine And.intro ?_ ?_))), (by repeat (first | exact trivial | exact rfl | (refine And.intro ?_ ?_))), rfl, rfl, trivial⟩, trivial, rfl, rfl⟩ (by intro q; rw [hn]; rfl) ?_
  rintro ⟨⟨rest_, k5⟩, hd9, h7⟩ _ A4 X4 R4
  replace hd9 : rest_ = a0.drop k5 := hd9
  rcases rest_ with _ | ⟨x11, rest8⟩
  ·have hlt13 := restNil hd9
   replace h7 := (qcref1_SameCode_l1.eq_1 _ _ _).symm.trans h7
   refine gos hn ?_
   refine COk.seqQ fun _ _ X5 _ => ?_
   refine goc hn ?_
   refine bselF hlt13 ?_
   refine goe hn ?_
   refine X5 _ _ _ ?_
   refine X4 _ _ _ ?_
   refine E3 _ _ ?_
   refine A2 _ _ ?_
   obtain rfl := Option.some.inj h7
   exact jn ⟨_, rfl⟩ []
  ·obtain ⟨hx12, hd2, hlt13⟩ := restCons hd9
   replace h7 := (qcref1_SameCode_l1.eq_2 _ _ _ _ _).symm.trans h7
   refine gos hn ?_
   refine COk.seqQ fun _ A6 _ _ => ?_
   refine goc hn ?_
   refine bselT hlt13 ?_
   refine gok hn ?_
   refine A6 _ _ ?_
   refine COk.seqQ fun _ A7 _ R7 => ?_
   refine COk.blkQ fun _ A8 _ _ R8 => ?_
   refine gos hn ?_
   refine COk.seqQ fun _ A9 _ _ => ?_
   refine god hn (by kernel_rfl) ?_
   refine idxK hx12 ?_
   obtain ⟨x14, hx15, h7⟩ := bindM h7
   refine idxM hx15 ?_
   refine A9 _ _ ?_
   refine goc hn ?_
   refine bselM h7 (fun hb16 h7 => ?_) (fun hb16 h7 => ?_)
   ·refine gos hn ?_
    refine got hn ?_
    refine R8 _ _ ?_
    refine R7 _ _ ?_
    refine R4 _ _ ?_
    refine R3 _ _ ?_
    refine R2 _ _ ?_
    refine R1 _ _ ?_
    obtain rfl := Option.some.inj h7
    obtain rfl := Option.some.inj h
    exact ⟨[], _, fm⟩
   refine gok hn ?_
   refine A8 _ _ ?_
   refine A7 _ _ ?_
   refine gor hn ?_
   refine Or.inl (And.intro (inrK hx12 hl4) ?_)
   refine A4 _ _ ?_
   exact jn ⟨(rest8, k5 + 1), hd2, h7⟩ [] (by show rest8.length < rest8.length + 1; omega)
 rintro ⟨⟨⟩, rfl⟩
 refine A1 _ _ ?_
 refine gos hn ?_
 refine got hn ?_
 obtain rfl := Option.some.inj h
 exact ⟨[], _, fm⟩

/- qcref1.SameWorld -/
set_option maxRecDepth 100000 in
set_option maxHeartbeats 8000000 in
theorem qcref1_SameWorld_ok (N : Nat) (a0 : Wd) (a1 : Wd) (r : Bool) (h : qcref1_SameWorld N a0 a1 = some r) : Spec Try.prog 18 [] [.agg (eWd a0), .agg (eWd a1)] (.bool r) [] [] := by
 refine Spec.of tabOk Try.func18 rfl Try.ntmps18 (by kernel_rfl) rfl rfl rfl fun Γ hn => ?_
 unfold qcref1_SameWorld at h
 refine gos hn ?_
 refine COk.seqQ fun _ A0 _ R0 => ?_
 refine COk.seqQ fun _ A1 _ _ => ?_
 obtain ⟨o3, h2, h⟩ := bindM h
 refine COk.joinR (ι := { s // o3 = s }) (fun s => [(2, .ptr 2 0), (3, .ptr 3 0), (36, .bool s.1)]) (fun s => [(2, .box (eWd a0) 25), (3, .box (eWd a1) 25)]) (fun _ A2 _ _ => ?_) (by intro s; rw [hn]; rfl) ?_
 ·refine gor hn ?_
  refine bselM h2 (fun hb4 h2 => ?_) (fun hb4 h2 => ?_)
  ·refine bselT hb4 ?_
   refine bselT hb4 ?_
   refine bselT hb4 ?_
   refine bselT hb4 ?_
   refine bselT hb4 ?_
   refine bselT hb4 ?_
   refine bselT hb4 ?_
   refine A2 _ _ ?_
   obtain rfl := Option.some.inj h2
   exact jn ⟨_, rfl⟩ []
  refine bselF hb4 ?_
  refine bselF hb4 ?_
  refine lenM (fun hl5 => ?_)
  refine bselF hb4 ?_
  refine bselF hb4 ?_
  refine bselF hb4 ?_
  refine lenM (fun hl6 => ?_)
  refine bselF hb4 ?_
  refine bselF hb4 ?_
  refine bselM h2 (fun hb7 h2 => ?_) (fun hb7 h2 => ?_)
  ·refine bselT hb7 ?_
   refine bselT hb7 ?_
   refine bselT hb7 ?_
   refine bselT hb7 ?_
   refine bselT hb7 ?_
   refine bselT hb7 ?_
   refine bselT hb7 ?_
   refine A2 _ _ ?_
   obtain rfl := Option.some.inj h2
   exact jn ⟨_, rfl⟩ []
  refine bselF hb7 ?_
  refine bselF hb7 ?_
  refine lenM (fun hl8 => ?_)
  refine bselF hb7 ?_
  refine bselF hb7 ?_
  refine bselF hb7 ?_
  refine lenM (fun hl9 => ?_)
  refine bselF hb7 ?_
  refine bselF hb7 ?_
  refine A2 _ _ ?_
  obtain rfl := Option.some.inj h2
  exact jn ⟨_, rfl⟩ []
 rintro ⟨v1, hv_⟩
 replace hv_ := hv_.symm
 subst hv_
 refine A1 _ _ ?_
 refine goc hn ?_
 refine bselM h (fun hb10 h => ?_) (fun hb10 h => ?_)
 ·refine gos hn ?_
  refine got hn ?_
  refine R0 _ _ ?_
  obtain rfl := Option.some.inj h
  exact ⟨[], _, fm⟩
 refine gok hn ?_
 refine A0 _ _ ?_
 refine COk.seqQ fun _ A3 _ R3 => ?_
 refine gos hn ?_
 refine lenM (fun hl11 => ?_)
 obtain ⟨o13, h14, h⟩ := bindM h
 refine COk.joinR (ι := { s // o13 = Ctl.next s }) (fun s => [(2, .ptr 2 0), (3, .ptr 3 0)]) (fun s => [(2, .box (eWd a0) 25), (3, .box (eWd a1) 25)]) (fun _ A4 _ R4 => ?_) (by intro s; rw [hn]; rfl) ?_
 ·refine COk.blkQ fun _ _ E5 _ R5 => ?_
  refine COk.loopQ (ι := { q : ((List Cl) × Nat) // q.1 = a0.classes.drop q.2 ∧ qcref1_SameWorld_l1 N a1 q.1 q.2 = some o13 }) (fun q => [(2, .ptr 2 0), (3, .ptr 3 0), (38, .sl 4 (List.map eCl a0.classes)), (39, .int (a0.classes.length : Int)), (40, .int (q.1.2 : Int))]) (fun q => [(2, .box (eWd a0) 25), (3, .box (eWd a1) 25)]) (fun q => q.1.1.length) ⟨(a0.classes, 0), rfl, h14⟩ [] ⟨⟨rfl, rfl, (by repeat (first | exact trivial | exact rfl | (refine And.intro ?_ ?_))), rfl, rfl, trivial⟩, ⟨rfl, rfl, trivial⟩, rfl, rfl⟩ (by intro q; rw [hn]; rfl) ?_
  rintro ⟨⟨rest_, k12⟩, hd16, h14⟩ _ A6 X6 R6
  replace hd16 : rest_ = a0.classes.drop k12 := hd16
  rcases rest_ with _ | ⟨x18, rest15⟩
  ·have hlt20 := restNil hd16
   replace h14 := (qcref1_SameWorld_l1.eq_1 _ _ _).symm.trans h14
   refine gos hn ?_
   refine COk.seqQ fun _ _ X7 _ => ?_
   refine goc hn ?_
   refine bselF hlt20 ?_
   refine goe hn ?_
   refine X7 _ _ _ ?_
   refine X6 _ _ _ ?_
   refine E5 _ _ ?_
   refine A4 _ _ ?_
   obtain rfl := Option.some.inj h14
   exact jn ⟨_, rfl⟩ []
  ·obtain ⟨hx19, hd2, hlt20⟩ := restCons hd16
   replace h14 := (qcref1_SameWorld_l1.eq_2 _ _ _ _ _).symm.trans h14
   refine gos hn ?_
   refine COk.seqQ fun _ A8 _ _ => ?_
   refine goc hn ?_
   refine bselT hlt20 ?_
   refine gok hn ?_
   refine A8 _ _ ?_
   refine COk.seqQ fun _ A9 _ R9 => ?_
   refine COk.blkQ fun _ A10 _ _ R10 => ?_
   refine gos hn ?_
   refine idxK hx19 ?_
   refine gos hn ?_
   obtain ⟨x21, hx22, h14⟩ := bindM h14
   refine idxM hx22 ?_
   refine COk.seqQ fun _ A11 _ R11 => ?_
   refine COk.seqQ fun _ A12 _ _ => ?_
   obtain ⟨o25, h24, h14⟩ := bindM h14
   refine COk.joinR (ι := { s // o25 = s }) (fun s => [(2, .ptr 2 0), (3, .ptr 3 0), (6, .ptr 6 0), (7, .ptr 7 0), (38, .sl 4 (List.map eCl a0.classes)), (39, .int (a0.classes.length : Int)), (40, .int (k12 : Int)), (77, .bool s.1)]) (fun s => [(2, .box (eWd a0) 25), (3, .box (eWd a1) 25), (6, .box (eCl x18) 51), (7, .box (eCl x21) 51)]) (fun _ A13 _ _ => ?_) (by intro s; rw [hn]; rfl) ?_
   ·refine kp [(2, _), (3, _), (6, _), (7, _), (38, _), (39, _), (40, _)] [(2, _), (3, _), (6, _), (7, _)] ?_
    refine gor hn ?_
    refine bselM h24 (fun hb26 h24 => ?_) (fun hb26 h24 => ?_)
    ·refine bselT hb26 ?_
     refine bselT hb26 ?_
     refine bselT hb26 ?_
     refine bselT hb26 ?_
     refine bselT hb26 ?_
     refine A13 _ _ ?_
     obtain rfl := Option.some.inj h24
     exact jn ⟨_, rfl⟩ []
    refine bselF hb26 ?_
    refine bselF hb26 ?_
    refine bselF hb26 ?_
    refine bselF hb26 ?_
    refine bselF hb26 ?_
    refine bselM h24 (fun hb27 h24 => ?_) (fun hb27 h24 => ?_)
    ·refine bselT hb27 ?_
     refine bselT hb27 ?_
     refine bselT hb27 ?_
     refine bselT hb27 ?_
     refine bselT hb27 ?_
     refine A13 _ _ ?_
     obtain rfl := Option.some.inj h24
     exact jn ⟨_, rfl⟩ []
    refine bselF hb27 ?_
    refine bselF hb27 ?_
    refine bselF hb27 ?_
    refine bselF hb27 ?_
    refine bselF hb27 ?_
    refine bselM h24 (fun hb28 h24 => ?_) (fun hb28 h24 => ?_)
    ·refine bselT hb28 ?_
     refine bselT hb28 ?_
     refine bselT hb28 ?_
     refine bselT hb28 ?_
     refine bselT hb28 ?_
     refine bselT hb28 ?_
     refine bselT hb28 ?_
     refine A13 _ _ ?_
     obtain rfl := Option.some.inj h24
     exact jn ⟨_, rfl⟩ []
    refine bselF hb28 ?_
    refine bselF hb28 ?_
    refine lenM (fun hl29 => ?_)
    refine bselF hb28 ?_
    refine bselF hb28 ?_
    refine bselF hb28 ?_
    refine lenM (fun hl30 => ?_)
    refine bselF hb28 ?_
    refine bselF hb28 ?_
    refine A13 _ _ ?_
    obtain rfl := Option.some.inj h24
    exact jn ⟨_, rfl⟩ []
   rintro ⟨v23, hv_⟩
   replace hv_ := hv_.symm
   subst hv_
   refine A12 _ _ ?_
   refine goc hn ?_
   refine bselM h14 (fun hb31 h14 => ?_) (fun hb31 h14 => ?_)
   ·refine gos hn ?_
    refine got hn ?_
    refine R11 _ _ ?_
    refine R10 _ _ ?_
    refine R9 _ _ ?_
    refine R6 _ _ ?_
    refine R5 _ _ ?_
    refine R4 _ _ ?_
    refine R3 _ _ ?_
    obtain rfl := Option.some.inj h14
    obtain rfl := Option.some.inj h
    exact ⟨[], _, fm⟩
   refine gok hn ?_
   refine A11 _ _ ?_
   refine gos hn ?_
   refine lenM (fun hl32 => ?_)
   obtain ⟨o34, h35, h14⟩ := bindM h14
   refine COk.joinR (ι := { s // o34 = Ctl.next s }) (fun s => [(2, .ptr 2 0), (3, .ptr 3 0), (38, .sl 4 (List.map eCl a0.classes)), (39, .int (a0.classes.length : Int)), (40, .int (k12 : Int))]) (fun s => [(2, .box (eWd a0) 25), (3, .box (eWd a1) 25)]) (fun _ A14 _ R14 => ?_) (by intro s; rw [hn]; rfl) ?_
   ·refine COk.blkQ fun _ _ E15 _ R15 => ?_
    refine COk.loopQ (ι := { q : ((List Me) × Nat) // q.1 = x18.methods.drop q.2 ∧ qcref1_SameWorld_l2 N x21 q.1 q.2 = some o34 }) (fun q => [(2, .ptr 2 0), (3, .ptr 3 0), (7, .ptr 7 0), (38, .sl 4 (List.map eCl a0.classes)), (39, .int (a0.classes.length : Int)), (40, .int (k12 : Int)), (79, .sl 5 (List.map eMe x18.methods)), (80, .int (x18.methods.length : Int)), (81, .int (q.1.2 : Int))]) (fun q => [(2, .box (eWd a0) 25), (3, .box (eWd a1) 25), (7, .box (eCl x21) 51)]) (fun q => q.1.1.length) ⟨(x18.methods, 0), rfl, h35⟩ [] ⟨⟨rfl, rfl, rfl, (by repeat (first | exact trivial | exact rfl | (refine And.intro ?_ ?_))), rfl, rfl, (by repeat (first | exact trivial | exact rfl | (refine And.intro ?_ ?_))), rfl, rfl, trivial⟩, ⟨rfl, rfl, rfl, trivial⟩, rfl, rfl⟩ (by intro q; rw [hn]; rfl) ?_
    rintro ⟨⟨rest_, k33⟩, hd37, h35⟩ _ A16 X16 R16
    replace hd37 : rest_ = x18.methods.drop k33 := hd37
    rcases rest_ with _ | ⟨x39, rest36⟩
    ·have hlt41 := restNil hd37
     replace h35 := (qcref1_SameWorld_l2.eq_1 _ _ _).symm.trans h35
     refine gos hn ?_
     refine COk.seqQ fun _ _ X17 _ => ?_
     refine goc hn ?_
     refine bselF hlt41 ?_
     refine goe hn ?_
     refine X17 _ _ _ ?_
     refine X16 _ _ _ ?_
     refine E15 _ _ ?_
     refine A14 _ _ ?_
     obtain rfl := Option.some.inj h35
     exact jn ⟨_, rfl⟩ []
    ·obtain ⟨hx40, hd2, hlt41⟩ := restCons hd37
     replace h35 := (qcref1_SameWorld_l2.eq_2 _ _ _ _ _).symm.trans h35
     refine gos hn ?_
     refine COk.seqQ fun _ A18 _ _ => ?_
     refine goc hn ?_
     refine bselT hlt41 ?_
     refine gok hn ?_
     refine A18 _ _ ?_
     refine COk.seqQ fun _ A19 _ R19 => ?_
     refine COk.blkQ fun _ A20 _ _ R20 => ?_
     refine gos hn ?_
     refine idxK hx40 ?_
     refine gos hn ?_
     obtain ⟨x42, hx43, h35⟩ := bindM h35
     refine idxM hx43 ?_
     refine COk.seqQ fun _ A21 _ _ => ?_
     obtain ⟨o46, h45, h35⟩ := bindM h35
     refine COk.joinR (ι := { s // o46 = s }) (fun s => [(2, .ptr 2 0), (3, .ptr 3 0), (7, .ptr 7 0), (38, .sl 4 (List.map eCl a0.classes)), (39, .int (a0.classes.length : Int)), (40, .int (k12 : Int)), (79, .sl 5 (List.map eMe x18.methods)), (80, .int (x18.methods.length : Int)), (81, .int (k33 : Int)), (124, .bool s.1)]) (fun s => [(2, .box (eWd a0) 25), (3, .box (eWd a1) 25), (7, .box (eCl x21) 51)]) (fun _ A22 _ _ => ?_) (by intro s; rw [hn]; rfl) ?_
     ·refine kp [(2, _), (3, _), (7, _), (9, _), (10, _), (38, _), (39, _), (40, _), (79, _), (80, _), (81, _)] [(2, _), (3, _), (7, _), (9, _), (10, _)] ?_
      refine gor hn ?_
      refine bselM h45 (fun hb47 h45 => ?_) (fun hb47 h45 => ?_)
      ·refine bselT hb47 ?_
       refine bselT hb47 ?_
       refine bselT hb47 ?_
       refine bselT hb47 ?_
       refine bselT hb47 ?_
       refine A22 _ _ ?_
       obtain rfl := Option.some.inj h45
       exact jn ⟨_, rfl⟩ []
      refine bselF hb47 ?_
      refine bselF hb47 ?_
      refine bselF hb47 ?_
      refine bselF hb47 ?_
      refine bselF hb47 ?_
      refine bselM h45 (fun hb48 h45 => ?_) (fun hb48 h45 => ?_)
      ·refine bselT hb48 ?_
       refine bselT hb48 ?_
       refine bselT hb48 ?_
       refine bselT hb48 ?_
       refine bselT hb48 ?_
       refine A22 _ _ ?_
       obtain rfl := Option.some.inj h45
       exact jn ⟨_, rfl⟩ []
      refine bselF hb48 ?_
      refine bselF hb48 ?_
      refine bselF hb48 ?_
      refine bselF hb48 ?_
      refine bselF hb48 ?_
      refine bselM h45 (fun hb49 h45 => ?_) (fun hb49 h45 => ?_)
      ·refine bselT hb49 ?_
       refine bselT hb49 ?_
       refine bselT hb49 ?_
       refine bselT hb49 ?_
       refine bselT hb49 ?_
       refine A22 _ _ ?_
       obtain rfl := Option.some.inj h45
       exact jn ⟨_, rfl⟩ []
      refine bselF hb49 ?_
      refine bselF hb49 ?_
      refine bselF hb49 ?_
      refine bselF hb49 ?_
      refine bselF hb49 ?_
      refine bselM h45 (fun hb50 h45 => ?_) (fun hb50 h45 => ?_)
      ·refine bselT hb50 ?_
       refine bselT hb50 ?_
       refine bselT hb50 ?_
       refine bselT hb50 ?_
       refine bselT hb50 ?_
       refine bselT hb50 ?_
       refine A22 _ _ ?_
       obtain rfl := Option.some.inj h45
       exact jn ⟨_, rfl⟩ []
      refine bselF hb50 ?_
      refine bselF hb50 ?_
      refine bselF hb50 ?_
      refine bselF hb50 ?_
      obtain ⟨r51, hr52, h45⟩ := bindM h45
      show CallOk Try.prog _ _ _ _
      refine cA (qcref1_SameCode_ok N x39.code x42.code r51 hr52) ?_
      refine bselF hb50 ?_
      refine bselF hb50 ?_
      refine A22 _ _ ?_
      obtain rfl := Option.some.inj h45
      exact jn ⟨_, rfl⟩ []
     rintro ⟨v44, hv_⟩
     replace hv_ := hv_.symm
     subst hv_
     refine A21 _ _ ?_
     refine goc hn ?_
     refine bselM h35 (fun hb53 h35 => ?_) (fun hb53 h35 => ?_)
     ·refine gos hn ?_
      refine got hn ?_
      refine R20 _ _ ?_
      refine R19 _ _ ?_
      refine R16 _ _ ?_
      refine R15 _ _ ?_
      refine R14 _ _ ?_
      refine R10 _ _ ?_
      refine R9 _ _ ?_
      refine R6 _ _ ?_
      refine R5 _ _ ?_
      refine R4 _ _ ?_
      refine R3 _ _ ?_
      obtain rfl := Option.some.inj h35
      obtain rfl := Option.some.inj h14
      obtain rfl := Option.some.inj h
      exact ⟨[], _, fm⟩
     refine gok hn ?_
     refine A20 _ _ ?_
     refine A19 _ _ ?_
     refine gor hn ?_
     refine Or.inl (And.intro (inrK hx40 hl32) ?_)
     refine A16 _ _ ?_
     exact jn ⟨(rest36, k33 + 1), hd2, h35⟩ [] (by show rest36.length < rest36.length + 1; omega)
   rintro ⟨⟨⟩, rfl⟩
   refine A10 _ _ ?_
   refine A9 _ _ ?_
   refine gor hn ?_
   refine Or.inl (And.intro (inrK hx19 hl11) ?_)
   refine A6 _ _ ?_
   exact jn ⟨(rest15, k12 + 1), hd2, h14⟩ [] (by show rest15.length < rest15.length + 1; omega)
 rintro ⟨⟨⟩, rfl⟩
 refine A3 _ _ ?_
 refine COk.seqQ fun _ A23 _ R23 => ?_
 refine gos hn ?_
 refine lenM (fun hl54 => ?_)
 obtain ⟨o56, h57, h⟩ := bindM h
 refine COk.joinR (ι := { s // o56 = Ctl.next s }) (fun s => []) (fun s => []) (fun _ A24 _ R24 => ?_) (by intro s; rw [hn]; rfl) ?_
 ·refine COk.blkQ fun _ _ E25 _ R25 => ?_
  refine COk.loopQ (ι := { q : ((List Ob) × Nat) // q.1 = a0.heap.drop q.2 ∧ qcref1_SameWorld_l3 N a1 q.1 q.2 = some o56 }) (fun q => [(3, .ptr 3 0), (128, .sl 2 (List.map eOb a0.heap)), (129, .int (a0.heap.length : Int)), (130, .int (q.1.2 : Int))]) (fun q => [(3, .box (eWd a1) 25)]) (fun q => q.1.1.length) ⟨(a0.heap, 0), rfl, h57⟩ [] ⟨⟨rfl, (by repeat (first | exact trivial | exact rfl | (refine And.intro ?_ ?_))), rfl, rfl, trivial⟩, ⟨rfl, trivial⟩, rfl, rfl⟩ (by intro q; rw [hn]; rfl) ?_
  rintro ⟨⟨rest_, k55⟩, hd59, h57⟩ _ A26 X26 R26
  replace hd59 : rest_ = a0.heap.drop k55 := hd59
  rcases rest_ with _ | ⟨x61, rest58⟩
  ·have hlt63 := restNil hd59
   replace h57 := (qcref1_SameWorld_l3.eq_1 _ _ _).symm.trans h57
   refine gos hn ?_
   refine COk.seqQ fun _ _ X27 _ => ?_
   refine goc hn ?_
   refine bselF hlt63 ?_
   refine goe hn ?_
   refine X27 _ _ _ ?_
   refine X26 _ _ _ ?_
   refine E25 _ _ ?_
   refine A24 _ _ ?_
   obtain rfl := Option.some.inj h57
   exact jn ⟨_, rfl⟩ []
  ·obtain ⟨hx62, hd2, hlt63⟩ := restCons hd59
   replace h57 := (qcref1_SameWorld_l3.eq_2 _ _ _ _ _).symm.trans h57
   refine gos hn ?_
   refine COk.seqQ fun _ A28 _ _ => ?_
   refine goc hn ?_
   refine bselT hlt63 ?_
   refine gok hn ?_
   refine A28 _ _ ?_
   refine COk.seqQ fun _ A29 _ R29 => ?_
   refine COk.blkQ fun _ A30 _ _ R30 => ?_
   refine gos hn ?_
   refine idxK hx62 ?_
   refine COk.seqQ fun _ A31 _ R31 => ?_
   refine COk.seqQ fun _ A32 _ _ => ?_
   obtain ⟨o66, h65, h57⟩ := bindM h57
   refine COk.joinR (ι := { s // o66 = s }) (fun s => [(3, .ptr 3 0), (11, .int (k55 : Int)), (12, .ptr 12 0), (128, .sl 2 (List.map eOb a0.heap)), (129, .int (a0.heap.length : Int)), (130, .int (k55 : Int)), (156, .bool s.1)]) (fun s => [(3, .box (eWd a1) 25), (12, .box (eOb x61) 97)]) (fun _ A33 _ _ => ?_) (by intro s; rw [hn]; rfl) ?_
   ·refine COk.sub (ts2 := [(3, .ptr 3 0), (11, .int (k55 : Int)), (12, .ptr 12 0), (128, .sl 2 (List.map eOb a0.heap)), (129, .int (a0.heap.length : Int)), (130, .int (k55 : Int))]) (os2 := [(3, .box (eWd a1) 25), (12, .box (eOb x61) 97)]) [] ⟨⟨rfl, rfl, rfl, (by repeat (first | exact trivial | exact rfl | (refine And.intro ?_ ?_))), rfl, rfl, trivial⟩, ⟨rfl, rfl, trivial⟩, rfl, rfl⟩ (by rw [hn]; rfl) ?_
    refine god hn (by kernel_rfl) ?_
    obtain ⟨x67, hx68, h65⟩ := bindM h65
    refine idxM hx68 ?_
    refine bselM h65 (fun hb69 h65 => ?_) (fun hb69 h65 => ?_)
    ·refine bselT hb69 ?_
     refine bselT hb69 ?_
     refine bselT hb69 ?_
     refine bselT hb69 ?_
     refine bselT hb69 ?_
     refine bselT hb69 ?_
     refine bselT hb69 ?_
     refine bselT hb69 ?_
     refine bselT hb69 ?_
     refine bselT hb69 ?_
     refine bselT hb69 ?_
     refine A33 _ _ ?_
     obtain rfl := Option.some.inj h65
     exact jn ⟨_, rfl⟩ []
    refine bselF hb69 ?_
    refine bselF hb69 ?_
    refine lenM (fun hl70 => ?_)
    refine bselF hb69 ?_
    refine bselF hb69 ?_
    refine bselF hb69 ?_
    refine bselF hb69 ?_
    obtain ⟨x71, hx72, h65⟩ := bindM h65
    refine idxM hx72 ?_
    refine bselF hb69 ?_
    refine bselF hb69 ?_
    refine bselF hb69 ?_
    refine lenM (fun hl73 => ?_)
    refine bselF hb69 ?_
    refine bselF hb69 ?_
    refine A33 _ _ ?_
    obtain rfl := Option.some.inj h65
    exact jn ⟨_, rfl⟩ []
   rintro ⟨v64, hv_⟩
   replace hv_ := hv_.symm
   subst hv_
   refine A32 _ _ ?_
   refine goc hn ?_
   refine bselM h57 (fun hb74 h57 => ?_) (fun hb74 h57 => ?_)
   ·refine gos hn ?_
    refine got hn ?_
    refine R31 _ _ ?_
    refine R30 _ _ ?_
    refine R29 _ _ ?_
    refine R26 _ _ ?_
    refine R25 _ _ ?_
    refine R24 _ _ ?_
    refine R23 _ _ ?_
    obtain rfl := Option.some.inj h57
    obtain rfl := Option.some.inj h
    exact ⟨[], _, fm⟩
   refine gok hn ?_
   refine A31 _ _ ?_
   refine gos hn ?_
   refine lenM (fun hl75 => ?_)
   obtain ⟨o77, h78, h57⟩ := bindM h57
   refine COk.joinR (ι := { s // o77 = Ctl.next s }) (fun s => [(3, .ptr 3 0), (128, .sl 2 (List.map eOb a0.heap)), (129, .int (a0.heap.length : Int)), (130, .int (k55 : Int))]) (fun s => [(3, .box (eWd a1) 25)]) (fun _ A34 _ R34 => ?_) (by intro s; rw [hn]; rfl) ?_
   ·refine COk.blkQ fun _ _ E35 _ R35 => ?_
    refine COk.loopQ (ι := { q : ((List V) × Nat) // q.1 = x61.slots.drop q.2 ∧ qcref1_SameWorld_l4 N a1 k55 q.1 q.2 = some o77 }) (fun q => [(3, .ptr 3 0), (11, .int (k55 : Int)), (12, .ptr 12 0), (128, .sl 2 (List.map eOb a0.heap)), (129, .int (a0.heap.length : Int)), (130, .int (k55 : Int)), (159, .int (x61.slots.length : Int)), (160, .int (q.1.2 : Int))]) (fun q => [(3, .box (eWd a1) 25), (12, .box (eOb x61) 97)]) (fun q => q.1.1.length) ⟨(x61.slots, 0), rfl, h78⟩ [] ⟨⟨rfl, rfl, rfl, (by repeat (first | exact trivial | exact rfl | (refine And.intro ?_ ?_))), rfl, rfl, rfl, rfl, trivial⟩, ⟨rfl, rfl, trivial⟩, rfl, rfl⟩ (by intro q; rw [hn]; rfl) ?_
    rintro ⟨⟨rest_, k76⟩, hd80, h78⟩ _ A36 X36 R36
    replace hd80 : rest_ = x61.slots.drop k76 := hd80
    rcases rest_ with _ | ⟨x82, rest79⟩
    ·have hlt84 := restNil hd80
     replace h78 := (qcref1_SameWorld_l4.eq_1 _ _ _ _).symm.trans h78
     refine gos hn ?_
     refine COk.seqQ fun _ _ X37 _ => ?_
     refine goc hn ?_
     refine bselF hlt84 ?_
     refine goe hn ?_
     refine X37 _ _ _ ?_
     refine X36 _ _ _ ?_
     refine E35 _ _ ?_
     refine A34 _ _ ?_
     obtain rfl := Option.some.inj h78
     exact jn ⟨_, rfl⟩ []
    ·obtain ⟨hx83, hd2, hlt84⟩ := restCons hd80
     replace h78 := (qcref1_SameWorld_l4.eq_2 _ _ _ _ _ _).symm.trans h78
     refine gos hn ?_
     refine COk.seqQ fun _ A38 _ _ => ?_
     refine goc hn ?_
     refine bselT hlt84 ?_
     refine gok hn ?_
     refine A38 _ _ ?_
     refine COk.seqQ fun _ A39 _ R39 => ?_
     refine COk.blkQ fun _ A40 _ _ R40 => ?_
     refine gos hn ?_
     refine COk.seqQ fun _ A41 _ _ => ?_
     refine god hn (by kernel_rfl) ?_
     refine idxK hx83 ?_
     obtain ⟨x85, hx86, h78⟩ := bindM h78
     refine idxM hx86 ?_
     obtain ⟨x87, hx88, h78⟩ := bindM h78
     refine idxM hx88 ?_
     refine A41 _ _ ?_
     refine goc hn ?_
     refine bselM h78 (fun hb89 h78 => ?_) (fun hb89 h78 => ?_)
     ·refine kp [] [] ?_
      refine gos hn ?_
      refine got hn ?_
      refine R40 _ _ ?_
      refine R39 _ _ ?_
      refine R36 _ _ ?_
      refine R35 _ _ ?_
      refine R34 _ _ ?_
      refine R30 _ _ ?_
      refine R29 _ _ ?_
      refine R26 _ _ ?_
      refine R25 _ _ ?_
      refine R24 _ _ ?_
      refine R23 _ _ ?_
      obtain rfl := Option.some.inj h78
      obtain rfl := Option.some.inj h57
      obtain rfl := Option.some.inj h
      exact ⟨[], _, fm⟩
     refine gok hn ?_
     refine A40 _ _ ?_
     refine A39 _ _ ?_
     refine kp [(3, _), (11, _), (12, _), (128, _), (129, _), (130, _), (159, _), (160, _)] [(3, _), (12, _)] ?_
     refine gor hn ?_
     refine Or.inl (And.intro (inrK hx83 hl75) ?_)
     refine A36 _ _ ?_
     exact jn ⟨(rest79, k76 + 1), hd2, h78⟩ [] (by show rest79.length < rest79.length + 1; omega)
   rintro ⟨⟨⟩, rfl⟩
   refine A30 _ _ ?_
   refine A29 _ _ ?_
   refine gor hn ?_
   refine Or.inl (And.intro (inrK hx62 hl54) ?_)
   refine A26 _ _ ?_
   exact jn ⟨(rest58, k55 + 1), hd2, h57⟩ [] (by show rest58.length < rest58.length + 1; omega)
 rintro ⟨⟨⟩, rfl⟩
 refine A23 _ _ ?_
 refine gos hn ?_
 refine got hn ?_
 obtain rfl := Option.some.inj h
 exact ⟨[], _, fm⟩

/- qclaw5.RunTells -/
set_option maxRecDepth 100000 in
set_option maxHeartbeats 8000000 in
theorem qclaw5_RunTells_ok (N : Nat) (a0 : Wd) (a1 : TCall) (a2 : Int) (r : Bool) (h : qclaw5_RunTells N a0 a1 a2 = some r) : Spec Try.prog 3 [] [.agg (eWd a0), .agg (eTCall a1), .int a2] (.bool r) [] [] := by
 refine Spec.of tabOk Try.func3 rfl Try.ntmps3 (by kernel_rfl) rfl rfl rfl fun Γ hn => ?_
 unfold qclaw5_RunTells at h
 refine gos hn ?_
 refine COk.seqQ fun _ A0 _ R0 => ?_
 refine gos hn ?_
 obtain ⟨r1, hr2, h⟩ := bindM h
 show CallOk Try.prog _ _ _ _
 refine cA (qcref1_Right_ok N a0 r1 hr2) ?_
 refine goc hn ?_
 refine bselM h (fun hb3 h => ?_) (fun hb3 h => ?_)
 ·refine gos hn ?_
  refine got hn ?_
  refine R0 _ _ ?_
  obtain rfl := Option.some.inj h
  exact ⟨[], _, fm⟩
 refine gok hn ?_
 refine A0 _ _ ?_
 refine gos hn ?_
 obtain ⟨r4, hr5, h⟩ := bindM h
 show CallOk Try.prog _ _ _ _
 refine cA (run_Plain_ok N a0 a1 a2 r4 hr5) ?_
 refine kp [(2, _), (3, _), (4, _), (7, _), (8, _)] [(3, _), (4, _), (7, _), (8, _)] ?_
 refine gos hn ?_
 obtain ⟨r6, hr7, h⟩ := bindM h
 show CallOk Try.prog _ _ _ _
 refine cA (qcref5_Run_ok N a0 a1 a2 r6 hr7) ?_
 refine COk.seqQ fun _ A1 _ _ => ?_
 obtain ⟨o10, h9, h⟩ := bindM h
 refine COk.joinR (ι := { s // o10 = s }) (fun s => [(6, .bool s.1)]) (fun s => []) (fun _ A2 _ _ => ?_) (by intro s; rw [hn]; rfl) ?_
 ·refine COk.sub (ts2 := [(2, .int a2), (3, .ptr 3 0), (4, .ptr 4 0), (7, .ptr 7 0), (8, .ptr 8 0), (9, .ptr 9 0), (10, .ptr 10 0)]) (os2 := [(3, .box (eWd a0) 25), (4, .box (eTCall a1) 30), (7, .box (eWd r4.1) 25), (8, .box (eTRan r4.2) 34), (9, .box (eWd r6.1) 25), (10, .box (eTRan r6.2.1) 34)]) [] ⟨⟨rfl, rfl, rfl, rfl, rfl, rfl, rfl, trivial⟩, ⟨rfl, rfl, rfl, rfl, rfl, rfl, trivial⟩, rfl, rfl⟩ (by rw [hn]; rfl) ?_
  refine god hn (by kernel_rfl) ?_
  obtain ⟨r11, hr12, h9⟩ := bindM h9
  show CallOk Try.prog _ _ _ _
  refine cA (run_Wrong_ok N a0 a1 a2 r11 hr12) ?_
  obtain ⟨r13, hr14, h9⟩ := bindM h9
  show CallOk Try.prog _ _ _ _
  refine cA (qcref5_WrongCall_ok N a0 a1 a2 r13 hr14) ?_
  refine bselM h9 (fun hb15 h9 => ?_) (fun hb15 h9 => ?_)
  ·refine bselT hb15 ?_
   refine bselT hb15 ?_
   refine bselT hb15 ?_
   refine bselM h9 (fun hb16 h9 => ?_) (fun hb16 h9 => ?_)
   ·refine bselT hb16 ?_
    refine bselT hb16 ?_
    obtain ⟨r17, hr18, h9⟩ := bindM h9
    show CallOk Try.prog _ _ _ _
    refine cA (qcref1_SameWorld_ok N r4.1 r6.1 r17 hr18) ?_
    refine bselT hb16 ?_
    refine A2 _ _ ?_
    obtain rfl := Option.some.inj h9
    exact jn ⟨_, rfl⟩ []
   refine bselF hb16 ?_
   refine bselF hb16 ?_
   refine bselF hb16 ?_
   refine A2 _ _ ?_
   obtain rfl := Option.some.inj h9
   exact jn ⟨_, rfl⟩ []
  refine bselF hb15 ?_
  refine bselF hb15 ?_
  refine bselF hb15 ?_
  refine A2 _ _ ?_
  obtain rfl := Option.some.inj h9
  exact jn ⟨_, rfl⟩ []
 rintro ⟨v8, hv_⟩
 replace hv_ := hv_.symm
 subst hv_
 refine A1 _ _ ?_
 refine got hn ?_
 obtain rfl := Option.some.inj h
 exact ⟨[], _, fm⟩
end Go.Proofs.Ytkecefjmcimemaa
