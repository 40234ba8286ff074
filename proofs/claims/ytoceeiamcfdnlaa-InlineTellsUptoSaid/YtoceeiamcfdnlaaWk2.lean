/- Walks after the mirrors. Printed by mir.py. -/
import Derived.Test.YtoceeiamcfdnlaaWk1
namespace Go.Proofs.Ytoceeiamcfdnlaa
open Go.RowKit
set_option linter.unusedVariables false
/- (*inline.writer).callee -/
set_option maxRecDepth 100000 in
set_option maxHeartbeats 1000000 in
theorem inline_writer_callee_ok (N : Nat) (a0 : TWriter) (a1 : Int) (a2 : ByteArray) (r : ((Option Me) × TWriter)) (h : inline_writer_callee N a0 a1 a2 = some r) : Spec Try.prog 56 [(1000, .box [.fp (eWd a0.w), .fp (eMe a0.m), .own 1001, .int a0.temps, .own 1002, .own 1003] 107), (1001, .row 5 (List.map eIns a0.out) 62), (1002, .row 1 (List.map eInt a0.at_) 3), (1003, .row 1 (List.map eInt a0.fix) 3)] [.ptr 1000 0, .int a1, .str a2] (optP eMe r.1) [(1000, .box [.fp (eWd r.2.w), .fp (eMe r.2.m), .own 2, .int r.2.temps, .own 3, .own 4] 107), (2, .row 5 (List.map eIns r.2.out) 62), (1001, .gone), (3, .row 1 (List.map eInt r.2.at_) 3), (1002, .gone), (4, .row 1 (List.map eInt r.2.fix) 3), (1003, .gone)] [2, 3, 4] := by
  refine Spec.of tabOk Try.func56 rfl Try.ntmps56 (by kernel_rfl) rfl rfl rfl fun Γ hn => ?_
  unfold inline_writer_callee at h
  refine COk.reidB 1000 2 1001 320 rfl rfl rfl rfl rfl rfl rfl rfl rfl ?_
  refine COk.reidB 1000 4 1002 321 rfl rfl rfl rfl rfl rfl rfl rfl rfl ?_
  refine COk.reidB 1000 5 1003 322 rfl rfl rfl rfl rfl rfl rfl rfl rfl ?_
  refine COk.seqQ fun Q8 qn8 qx8 qr8 => ?_
  refine gor hn ?_
  refine qn8 _ _ ?_
  refine COk.seqQ fun Q9 qn9 qx9 qr9 => ?_
  refine gor hn ?_
  obtain ⟨r1, hr2, h⟩ := bindM h
  show CallOk Try.prog _ _ _ _
  refine CallOk.as (class_Find_ok N a0.w a1 a2 r1 hr2) (by repeat (first | exact trivial | exact rfl | (refine And.intro ?_ ?_))) trivial rfl ?_
  refine qn9 _ _ ?_
  refine COk.seqQ fun Q10 qn10 qx10 qr10 => ?_
  refine COk.seqQ fun Q11 qn11 qx11 qr11 => ?_
  refine COk.sub (ts2 := [(0, .ptr 1000 0), (7, .int r1.1), (8, .int r1.2)]) (os2 := [(320, .row 5 (List.map eIns a0.out) 62), (321, .row 1 (List.map eInt a0.at_) 3), (322, .row 1 (List.map eInt a0.fix) 3), (1000, .box [.fp (eWd a0.w), .fp (eMe a0.m), .own 320, .int a0.temps, .own 321, .own 322] 107), (1001, .gone), (1002, .gone), (1003, .gone)]) [] ⟨⟨rfl, rfl, rfl, trivial⟩, ⟨rfl, rfl, rfl, rfl, rfl, rfl, rfl, trivial⟩, rfl, rfl⟩ (by rw [hn]; rfl) ?_
  refine gor hn ?_
  refine qn11 _ _ ?_
  refine goc hn ?_
  refine bselM h (fun hb3 h => ?_) (fun hb3 h => ?_)
  · refine COk.seqQ fun Q13 qn13 qx13 qr13 => ?_
    refine gor hn ?_
    refine qn13 _ _ ?_
    refine got hn ?_
    refine qr10 _ _ ?_
    obtain rfl := Option.some.inj h
    exact ⟨[(2, 320), (3, 321), (4, 322)], _, rfl, (by repeat (first | exact trivial | exact rfl | (refine And.intro ?_ ?_))), ⟨rfl, rfl, rfl, rfl, rfl, rfl, rfl, trivial⟩, rfl, rfl, rfl, rfl, rfl⟩
  · refine gok hn ?_
    refine qn10 _ _ ?_
    refine COk.seqQ fun Q14 qn14 qx14 qr14 => ?_
    refine gor hn ?_
    obtain ⟨x4, hx5, h⟩ := bindM h
    refine idxM hx5 ?_
    obtain ⟨x6, hx7, h⟩ := bindM h
    refine idxM hx7 ?_
    refine qn14 _ _ ?_
    refine got hn ?_
    obtain rfl := Option.some.inj h
    exact ⟨[(2, 320), (3, 321), (4, 322)], _, rfl, (by repeat (first | exact trivial | exact rfl | (refine And.intro ?_ ?_))), ⟨rfl, rfl, rfl, rfl, rfl, rfl, rfl, trivial⟩, rfl, rfl, rfl, rfl, rfl⟩

/- slices.IndexFunc[[]api.Instr,api.Instr] -/
set_option maxRecDepth 100000 in
set_option maxHeartbeats 1000000 in
theorem slices_IndexFunc_api_Instr_api_Instr_ok (N : Nat) (a0 : (List Ins)) (g1 : Ins → Option Bool) {K1 : Nat} (hg1 : ∀ x0_ y_, g1 x0_ = some y_ → Spec Try.prog K1 [] [.agg (eIns x0_)] (.bool y_) [] []) (r : Int) (h : slices_IndexFunc_api_Instr_api_Instr N a0 g1 = some r) : Spec Try.prog 92 [] [.sl 5 (List.map eIns a0), .fn K1 []] (.int r) [] [] := by
  refine Spec.of tabOk Try.func92 rfl Try.ntmps92 (by kernel_rfl) rfl rfl rfl fun Γ hn => ?_
  unfold slices_IndexFunc_api_Instr_api_Instr at h
  refine COk.seqQ fun Q41 qn41 qx41 qr41 => ?_
  refine gor hn ?_
  refine qn41 _ _ ?_
  refine COk.seqQ fun Q42 qn42 qx42 qr42 => ?_
  refine COk.seqQ fun Q43 qn43 qx43 qr43 => ?_
  refine gor hn ?_
  refine lenM (fun hl1 => ?_)
  refine qn43 _ _ ?_
  obtain ⟨o3, h4, h⟩ := bindM h
  refine COk.joinR (ι := { s : Unit // o3 = Ctl.next s }) (fun s => []) (fun s => []) (fun Q63 qn63 qx63 qr63 => ?_) (by intro s; rw [hn]; rfl) ?_
  · refine COk.blkQ fun Q64 qn64 qe64 qx64 qr64 => ?_
    refine COk.loopQ (ι := { q : ((List Ins) × Nat) // q.1 = a0.drop q.2 ∧ slices_IndexFunc_api_Instr_api_Instr_l1 N g1 q.1 q.2 = some o3 }) (fun q => [(0, .sl 5 (List.map eIns a0)), (1, .fn K1 []), (7, .int (a0.length : Int)), (8, .int (q.1.2 : Int))]) (fun q => []) (fun q => q.1.1.length) ⟨(a0, 0), rfl, h4⟩ [] ⟨⟨(by repeat (first | exact trivial | exact rfl | (refine And.intro ?_ ?_))), rfl, rfl, rfl, trivial⟩, trivial, rfl, rfl⟩ (by intro q; rw [hn]; rfl) ?_
    rintro ⟨⟨rest_, k2⟩, hd6, h4⟩ Q65 qn65 qx65 qr65
    replace hd6 : rest_ = a0.drop k2 := hd6
    rcases rest_ with _ | ⟨x8, rest5⟩
    · have hlt10 := restNil hd6
      replace h4 := (slices_IndexFunc_api_Instr_api_Instr_l1.eq_1 _ _ _).symm.trans h4
      refine COk.seqQ fun Q66 qn66 qx66 qr66 => ?_
      refine gor hn ?_
      refine qn66 _ _ ?_
      refine COk.seqQ fun Q67 qn67 qx67 qr67 => ?_
      refine goc hn ?_
      refine bselF hlt10 ?_
      refine goe hn ?_
      refine qx67 _ _ _ ?_
      refine qx65 _ _ _ ?_
      refine qe64 _ _ ?_
      refine qn63 _ _ ?_
      obtain rfl := Option.some.inj h4
      refine EOk.done ?_
      exact ⟨⟨_, rfl⟩, [], trivial, ⟨trivial, trivial, rfl, rfl⟩⟩
    · obtain ⟨hx9, hd2, hlt10⟩ := restCons hd6
      replace h4 := (slices_IndexFunc_api_Instr_api_Instr_l1.eq_2 _ _ _ _ _).symm.trans h4
      refine COk.seqQ fun Q68 qn68 qx68 qr68 => ?_
      refine gor hn ?_
      refine qn68 _ _ ?_
      refine COk.seqQ fun Q69 qn69 qx69 qr69 => ?_
      refine goc hn ?_
      refine bselT hlt10 ?_
      refine gok hn ?_
      refine qn69 _ _ ?_
      refine COk.seqQ fun Q70 qn70 qx70 qr70 => ?_
      refine COk.blkQ fun Q76 qn76 qe76 qx76 qr76 => ?_
      refine COk.seqQ fun Q77 qn77 qx77 qr77 => ?_
      refine gor hn ?_
      refine qn77 _ _ ?_
      refine COk.seqQ fun Q78 qn78 qx78 qr78 => ?_
      refine gor hn ?_
      refine idxK hx9 ?_
      obtain ⟨r11, hr12, h4⟩ := bindM h4
      show CallOk Try.prog _ _ _ _
      refine CallOk.as (hg1 _ _ hr12) (by repeat (first | exact trivial | exact rfl | (refine And.intro ?_ ?_))) trivial rfl ?_
      refine qn78 _ _ ?_
      refine goc hn ?_
      refine bselM h4 (fun hb13 h4 => ?_) (fun hb13 h4 => ?_)
      · refine COk.seqQ fun Q79 qn79 qx79 qr79 => ?_
        refine gor hn ?_
        refine qn79 _ _ ?_
        refine got hn ?_
        refine qr76 _ _ ?_
        refine qr70 _ _ ?_
        refine qr65 _ _ ?_
        refine qr64 _ _ ?_
        refine qr63 _ _ ?_
        refine qr42 _ _ ?_
        obtain rfl := Option.some.inj h4
        obtain rfl := Option.some.inj h
        exact ⟨[], _, rfl, (by repeat (first | exact trivial | exact rfl | (refine And.intro ?_ ?_))), trivial, rfl, rfl, rfl, rfl, rfl⟩
      · refine gok hn ?_
        refine qn76 _ _ ?_
        refine qn70 _ _ ?_
        refine gor hn ?_
        refine Or.inl (And.intro (inrK hx9 hl1) ?_)
        refine qn65 _ _ ?_
        refine EOk.done ?_
        exact ⟨⟨(rest5, k2 + 1), hd2, h4⟩, [], by show rest5.length < rest5.length + 1; omega, ⟨⟨(by repeat (first | exact trivial | exact rfl | (refine And.intro ?_ ?_))), rfl, rfl, rfl, trivial⟩, trivial, rfl, rfl⟩⟩
  rintro ⟨⟨⟩, rfl⟩
  refine qn42 _ _ ?_
  refine COk.seqQ fun Q80 qn80 qx80 qr80 => ?_
  refine gor hn ?_
  refine qn80 _ _ ?_
  refine got hn ?_
  obtain rfl := Option.some.inj h
  exact ⟨[], _, rfl, (by repeat (first | exact trivial | exact rfl | (refine And.intro ?_ ?_))), trivial, rfl, rfl, rfl, rfl, rfl⟩

/- slices.ContainsFunc[[]api.Instr,api.Instr] -/
set_option maxRecDepth 100000 in
set_option maxHeartbeats 1000000 in
theorem slices_ContainsFunc_api_Instr_api_Instr_ok (N : Nat) (a0 : (List Ins)) (g1 : Ins → Option Bool) {K1 : Nat} (hg1 : ∀ x0_ y_, g1 x0_ = some y_ → Spec Try.prog K1 [] [.agg (eIns x0_)] (.bool y_) [] []) (r : Bool) (h : slices_ContainsFunc_api_Instr_api_Instr N a0 g1 = some r) : Spec Try.prog 79 [] [.sl 5 (List.map eIns a0), .fn K1 []] (.bool r) [] [] := by
  refine Spec.of tabOk Try.func79 rfl Try.ntmps79 (by kernel_rfl) rfl rfl rfl fun Γ hn => ?_
  unfold slices_ContainsFunc_api_Instr_api_Instr at h
  refine COk.seqQ fun Q3 qn3 qx3 qr3 => ?_
  refine gor hn ?_
  refine qn3 _ _ ?_
  refine COk.seqQ fun Q4 qn4 qx4 qr4 => ?_
  refine gor hn ?_
  obtain ⟨r1, hr2, h⟩ := bindM h
  show CallOk Try.prog _ _ _ _
  refine CallOk.as (slices_IndexFunc_api_Instr_api_Instr_ok N a0 g1 hg1 r1 hr2) (by repeat (first | exact trivial | exact rfl | (refine And.intro ?_ ?_))) trivial rfl ?_
  refine qn4 _ _ ?_
  refine got hn ?_
  obtain rfl := Option.some.inj h
  exact ⟨[], _, rfl, (by repeat (first | exact trivial | exact rfl | (refine And.intro ?_ ?_))), trivial, rfl, rfl, rfl, rfl, rfl⟩

/- choose.Leaf$1 -/
set_option maxRecDepth 100000 in
set_option maxHeartbeats 1000000 in
theorem choose_Leaf_1_ok (N : Nat) (a0 : Ins) (r : Bool) (h : choose_Leaf_1 N a0 = some r) : Spec Try.prog 80 [] [.agg (eIns a0)] (.bool r) [] [] := by
  refine Spec.of tabOk Try.func80 rfl Try.ntmps80 (by kernel_rfl) rfl rfl rfl fun Γ hn => ?_
  unfold choose_Leaf_1 at h
  refine COk.seqQ fun Q4 qn4 qx4 qr4 => ?_
  refine gor hn ?_
  refine qn4 _ _ ?_
  refine COk.seqQ fun Q5 qn5 qx5 qr5 => ?_
  obtain ⟨o3, h2, h⟩ := bindM h
  refine COk.joinR (ι := { s : Bool // o3 = s }) (fun s => [(2, .bool s.1)]) (fun s => []) (fun Q6 qn6 qx6 qr6 => ?_) (by intro s; rw [hn]; rfl) ?_
  · refine gor hn ?_
    refine bselM h2 (fun hb4 h2 => ?_) (fun hb4 h2 => ?_)
    · refine bselT hb4 ?_
      refine bselT hb4 ?_
      refine bselT hb4 ?_
      refine qn6 _ _ ?_
      obtain rfl := Option.some.inj h2
      refine EOk.done ?_
      exact ⟨⟨_, rfl⟩, [], trivial, ⟨⟨rfl, trivial⟩, trivial, rfl, rfl⟩⟩
    · refine bselF hb4 ?_
      refine bselF hb4 ?_
      refine bselF hb4 ?_
      refine qn6 _ _ ?_
      obtain rfl := Option.some.inj h2
      refine EOk.done ?_
      exact ⟨⟨_, rfl⟩, [], trivial, ⟨⟨rfl, trivial⟩, trivial, rfl, rfl⟩⟩
  rintro ⟨v1, hv_⟩
  replace hv_ := hv_.symm
  subst hv_
  refine qn5 _ _ ?_
  refine got hn ?_
  obtain rfl := Option.some.inj h
  exact ⟨[], _, rfl, (by repeat (first | exact trivial | exact rfl | (refine And.intro ?_ ?_))), trivial, rfl, rfl, rfl, rfl, rfl⟩

/- choose.Leaf -/
set_option maxRecDepth 100000 in
set_option maxHeartbeats 1000000 in
theorem choose_Leaf_ok (N : Nat) (a0 : Me) (r : Bool) (h : choose_Leaf N a0 = some r) : Spec Try.prog 57 [] [.agg (eMe a0)] (.bool r) [] [] := by
  refine Spec.of tabOk Try.func57 rfl Try.ntmps57 (by kernel_rfl) rfl rfl rfl fun Γ hn => ?_
  unfold choose_Leaf at h
  refine COk.seqQ fun Q4 qn4 qx4 qr4 => ?_
  refine gor hn ?_
  refine qn4 _ _ ?_
  refine COk.seqQ fun Q5 qn5 qx5 qr5 => ?_
  obtain ⟨o3, h2, h⟩ := bindM h
  refine COk.joinR (ι := { s : Bool // o3 = s }) (fun s => [(2, .bool s.1)]) (fun s => []) (fun Q6 qn6 qx6 qr6 => ?_) (by intro s; rw [hn]; rfl) ?_
  · refine gor hn ?_
    refine bselM h2 (fun hb4 h2 => ?_) (fun hb4 h2 => ?_)
    · refine bselT hb4 ?_
      refine bselT hb4 ?_
      obtain ⟨r5, hr6, h2⟩ := bindM h2
      show CallOk Try.prog _ _ _ _
      refine CallOk.as (slices_ContainsFunc_api_Instr_api_Instr_ok N a0.code (fun x0_ => choose_Leaf_1 N x0_) (fun x0_ y_ hy_ => choose_Leaf_1_ok N x0_ y_ hy_) r5 hr6) (by repeat (first | exact trivial | exact rfl | (refine And.intro ?_ ?_))) trivial rfl ?_
      refine bselT hb4 ?_
      refine bselT hb4 ?_
      refine qn6 _ _ ?_
      obtain rfl := Option.some.inj h2
      refine EOk.done ?_
      exact ⟨⟨_, rfl⟩, [], trivial, ⟨⟨rfl, trivial⟩, trivial, rfl, rfl⟩⟩
    · refine bselF hb4 ?_
      refine bselF hb4 ?_
      refine bselF hb4 ?_
      refine bselF hb4 ?_
      refine qn6 _ _ ?_
      obtain rfl := Option.some.inj h2
      refine EOk.done ?_
      exact ⟨⟨_, rfl⟩, [], trivial, ⟨⟨rfl, trivial⟩, trivial, rfl, rfl⟩⟩
  rintro ⟨v1, hv_⟩
  replace hv_ := hv_.symm
  subst hv_
  refine qn5 _ _ ?_
  refine got hn ?_
  obtain rfl := Option.some.inj h
  exact ⟨[], _, rfl, (by repeat (first | exact trivial | exact rfl | (refine And.intro ?_ ?_))), trivial, rfl, rfl, rfl, rfl, rfl⟩

/- inline.size -/
set_option maxRecDepth 100000 in
set_option maxHeartbeats 1000000 in
theorem inline_size_ok (N : Nat) (a0 : Me) (r : Int) (h : inline_size N a0 = some r) : Spec Try.prog 58 [] [.fp (eMe a0)] (.int r) [] [] := by
  refine Spec.of tabOk Try.func58 rfl Try.ntmps58 (by kernel_rfl) rfl rfl rfl fun Γ hn => ?_
  unfold inline_size at h
  refine COk.seqQ fun Q3 qn3 qx3 qr3 => ?_
  refine gor hn ?_
  refine qn3 _ _ ?_
  refine COk.seqQ fun Q4 qn4 qx4 qr4 => ?_
  refine COk.sub (ts2 := [(0, .fp (eMe a0))]) (os2 := []) [] ⟨⟨(by repeat (first | exact trivial | exact rfl | (refine And.intro ?_ ?_))), trivial⟩, trivial, rfl, rfl⟩ (by rw [hn]; rfl) ?_
  refine god hn (by kernel_rfl) ?_
  refine Or.inr ?_
  refine Or.inr ?_
  refine Or.inr ?_
  refine lenM (fun hl1 => ?_)
  refine Or.inr ?_
  refine qn4 _ _ ?_
  refine got hn ?_
  obtain rfl := Option.some.inj h
  exact ⟨[], _, rfl, (by repeat (first | exact trivial | exact rfl | (refine And.intro ?_ ?_))), trivial, rfl, rfl, rfl, rfl, rfl⟩

/- (*inline.writer).put -/
set_option maxRecDepth 100000 in
set_option maxHeartbeats 1000000 in
theorem inline_writer_put_ok (N : Nat) (a0 : TWriter) (a1 : Int) (a2 : Int) (a3 : Int) (a4 : Int) (r : TWriter) (h : inline_writer_put N a0 a1 a2 a3 a4 = some r) : Spec Try.prog 81 [(1000, .box [.fp (eWd a0.w), .fp (eMe a0.m), .own 1001, .int a0.temps, .own 1002, .own 1003] 107), (1001, .row 5 (List.map eIns a0.out) 62), (1002, .row 1 (List.map eInt a0.at_) 3), (1003, .row 1 (List.map eInt a0.fix) 3)] [.ptr 1000 0, .int a1, .int a2, .int a3, .int a4] (.tup []) [(1000, .box [.fp (eWd r.w), .fp (eMe r.m), .own 2, .int r.temps, .own 3, .own 4] 107), (2, .row 5 (List.map eIns r.out) 62), (1001, .gone), (3, .row 1 (List.map eInt r.at_) 3), (1002, .gone), (4, .row 1 (List.map eInt r.fix) 3), (1003, .gone)] [2, 3, 4] := by
  refine Spec.of tabOk Try.func81 rfl Try.ntmps81 (by kernel_rfl) rfl rfl rfl fun Γ hn => ?_
  unfold inline_writer_put at h
  refine COk.reidB 1000 2 1001 320 rfl rfl rfl rfl rfl rfl rfl rfl rfl ?_
  refine COk.reidB 1000 4 1002 321 rfl rfl rfl rfl rfl rfl rfl rfl rfl ?_
  refine COk.reidB 1000 5 1003 322 rfl rfl rfl rfl rfl rfl rfl rfl rfl ?_
  refine gor hn ?_
  refine Exists.intro (List.map eIns [(⟨a1, a2, a3, a4, ByteArray.empty⟩ : Ins)]) (And.intro (by repeat (first | exact trivial | exact rfl | (refine And.intro ?_ ?_))) ?_)
  obtain ⟨hg1, h⟩ := guardM h
  refine appM (l2 := [(⟨a1, a2, a3, a4, ByteArray.empty⟩ : Ins)]) hg1 (leLs_refl _) ?_
  obtain rfl := Option.some.inj h
  exact ⟨[(2, 21), (3, 321), (4, 322)], _, rfl, (by repeat (first | exact trivial | exact rfl | (refine And.intro ?_ ?_))), ⟨rfl, rfl, rfl, rfl, rfl, rfl, rfl, trivial⟩, rfl, rfl, rfl, rfl, rfl⟩

/- (*inline.writer).send -/
set_option maxRecDepth 100000 in
set_option maxHeartbeats 1000000 in
theorem inline_writer_send_ok (N : Nat) (a0 : TWriter) (a1 : Int) (a2 : Int) (a3 : Ins) (a4 : Me) (r : TWriter) (h : inline_writer_send N a0 a1 a2 a3 a4 = some r) : Spec Try.prog 59 [(1000, .box [.fp (eWd a0.w), .fp (eMe a0.m), .own 1001, .int a0.temps, .own 1002, .own 1003] 107), (1001, .row 5 (List.map eIns a0.out) 62), (1002, .row 1 (List.map eInt a0.at_) 3), (1003, .row 1 (List.map eInt a0.fix) 3)] [.ptr 1000 0, .int a1, .int a2, .agg (eIns a3), .fp (eMe a4)] (.tup []) [(1000, .box [.fp (eWd r.w), .fp (eMe r.m), .own 2, .int r.temps, .own 3, .own 4] 107), (2, .row 5 (List.map eIns r.out) 62), (1001, .gone), (3, .row 1 (List.map eInt r.at_) 3), (1002, .gone), (4, .row 1 (List.map eInt r.fix) 3), (1003, .gone)] [2, 3, 4] := by
  refine Spec.of tabOk Try.func59 rfl Try.ntmps59 (by kernel_rfl) rfl rfl rfl fun Γ hn => ?_
  unfold inline_writer_send at h
  refine COk.reidB 1000 2 1001 320 rfl rfl rfl rfl rfl rfl rfl rfl rfl ?_
  refine COk.reidB 1000 4 1002 321 rfl rfl rfl rfl rfl rfl rfl rfl rfl ?_
  refine COk.reidB 1000 5 1003 322 rfl rfl rfl rfl rfl rfl rfl rfl rfl ?_
  refine COk.seqQ fun Q1577 qn1577 qx1577 qr1577 => ?_
  refine gor hn ?_
  refine qn1577 _ _ ?_
  refine COk.seqQ fun Q1578 qn1578 qx1578 qr1578 => ?_
  refine gor hn ?_
  refine qn1578 _ _ ?_
  refine COk.seqQ fun Q1579 qn1579 qx1579 qr1579 => ?_
  refine COk.sub (ts2 := [(0, .ptr 1000 0), (1, .int a1), (2, .int a2), (4, .fp (eMe a4)), (8, .ptr 8 0), (10, .int a0.temps)]) (os2 := [(8, .box (eIns a3) 62), (320, .row 5 (List.map eIns a0.out) 62), (321, .row 1 (List.map eInt a0.at_) 3), (322, .row 1 (List.map eInt a0.fix) 3), (1000, .box [.fp (eWd a0.w), .fp (eMe a0.m), .own 320, .int a0.temps, .own 321, .own 322] 107), (1001, .gone), (1002, .gone), (1003, .gone)]) [] ⟨⟨rfl, rfl, rfl, (by repeat (first | exact trivial | exact rfl | (refine And.intro ?_ ?_))), rfl, rfl, trivial⟩, ⟨rfl, rfl, rfl, rfl, rfl, rfl, rfl, rfl, trivial⟩, rfl, rfl⟩ (by rw [hn]; rfl) ?_
  refine god hn (by kernel_rfl) ?_
  refine Or.inr ?_
  refine Or.inr ?_
  refine Or.inr ?_
  refine qn1579 _ _ ?_
  refine COk.seqQ fun Q1580 qn1580 qx1580 qr1580 => ?_
  refine COk.sub (ts2 := [(0, .ptr 1000 0), (1, .int a1), (2, .int a2), (4, .fp (eMe a4)), (8, .ptr 8 0), (10, .int a0.temps)]) (os2 := [(8, .box (eIns a3) 62), (320, .row 5 (List.map eIns a0.out) 62), (321, .row 1 (List.map eInt a0.at_) 3), (322, .row 1 (List.map eInt a0.fix) 3), (1000, .box [.fp (eWd a0.w), .fp (eMe a0.m), .own 320, .int (wr (a0.temps + (wr ((wr ((1 : Int) + a4.args)) + a4.temps)))), .own 321, .own 322] 107), (1001, .gone), (1002, .gone), (1003, .gone)]) [] ⟨⟨rfl, rfl, rfl, (by repeat (first | exact trivial | exact rfl | (refine And.intro ?_ ?_))), rfl, rfl, trivial⟩, ⟨rfl, rfl, rfl, rfl, rfl, rfl, rfl, rfl, trivial⟩, rfl, rfl⟩ (by rw [hn]; rfl) ?_
  refine gor hn ?_
  obtain ⟨r1, hr2, h⟩ := bindM h
  show CallOk Try.prog _ _ _ _
  refine CallOk.as (((((((inline_writer_put_ok N (⟨a0.w, a0.m, a0.out, (wr (a0.temps + (wr ((wr ((1 : Int) + a4.args)) + a4.temps)))), a0.at_, a0.fix⟩ : TWriter) (18 : Int) a1 a3.a a2 r1 hr2).sw 1001 320).sw 1002 321).sw 1003 322).sw 2 601).sw 3 602).sw 4 603) (by repeat (first | exact trivial | exact rfl | (refine And.intro ?_ ?_))) (by repeat (first | exact trivial | exact rfl | (refine And.intro ?_ ?_))) rfl ?_
  refine qn1580 _ _ ?_
  refine COk.seqQ fun Q1581 qn1581 qx1581 qr1581 => ?_
  refine gor hn ?_
  obtain ⟨r3, hr4, h⟩ := bindM h
  show CallOk Try.prog _ _ _ _
  refine CallOk.as (((((((inline_writer_put_ok N (⟨r1.w, r1.m, r1.out, r1.temps, r1.at_, r1.fix⟩ : TWriter) (21 : Int) (0 : Int) (0 : Int) (0 : Int) r3 hr4).sw 1001 601).sw 1002 602).sw 1003 603).sw 2 604).sw 3 605).sw 4 606) (by repeat (first | exact trivial | exact rfl | (refine And.intro ?_ ?_))) (by repeat (first | exact trivial | exact rfl | (refine And.intro ?_ ?_))) rfl ?_
  refine qn1581 _ _ ?_
  refine COk.seqQ fun Q1582 qn1582 qx1582 qr1582 => ?_
  refine COk.seqQ fun Q1583 qn1583 qx1583 qr1583 => ?_
  refine gor hn ?_
  refine qn1583 _ _ ?_
  obtain ⟨o26, h27, h⟩ := bindM h
  refine COk.joinR (ι := { s : (Wd × Me × (List Ins) × Int × (List Int) × (List Int)) // o26 = s }) (fun s => [(0, .ptr 1000 0), (4, .fp (eMe a4)), (10, .int a0.temps)]) (fun s => [(604, .row 5 (List.map eIns s.1.2.2.1) 62), (605, .row 1 (List.map eInt s.1.2.2.2.2.1) 3), (606, .row 1 (List.map eInt s.1.2.2.2.2.2) 3), (1000, .box [.fp (eWd s.1.1), .fp (eMe s.1.2.1), .own 604, .int s.1.2.2.2.1, .own 605, .own 606] 107), (1001, .gone), (1002, .gone), (1003, .gone)]) (fun Q1599 qn1599 qx1599 qr1599 => ?_) (by intro s; rw [hn]; rfl) ?_
  · refine COk.blkQ fun Q1600 qn1600 qe1600 qx1600 qr1600 => ?_
    refine COk.loopQ (ι := { q : (Nat × Wd × Me × (List Ins) × Int × (List Int) × (List Int) × Int) // inline_writer_send_l1 N a0 q.1 q.2.1 q.2.2.1 q.2.2.2.1 q.2.2.2.2.1 q.2.2.2.2.2.1 q.2.2.2.2.2.2.1 q.2.2.2.2.2.2.2 = some o26 }) (fun q => [(0, .ptr 1000 0), (4, .fp (eMe a4)), (10, .int a0.temps), (11, .int q.1.2.2.2.2.2.2.2)]) (fun q => [(604, .row 5 (List.map eIns q.1.2.2.2.1) 62), (605, .row 1 (List.map eInt q.1.2.2.2.2.2.1) 3), (606, .row 1 (List.map eInt q.1.2.2.2.2.2.2.1) 3), (1000, .box [.fp (eWd q.1.2.1), .fp (eMe q.1.2.2.1), .own 604, .int q.1.2.2.2.2.1, .own 605, .own 606] 107), (1001, .gone), (1002, .gone), (1003, .gone)]) (fun q => q.1.1) ⟨(N, r3.w, r3.m, r3.out, r3.temps, r3.at_, r3.fix, a4.args), h27⟩ [] ⟨⟨rfl, (by repeat (first | exact trivial | exact rfl | (refine And.intro ?_ ?_))), rfl, rfl, trivial⟩, ⟨rfl, rfl, rfl, rfl, rfl, rfl, rfl, trivial⟩, rfl, rfl⟩ (by intro q; rw [hn]; rfl) ?_
    rintro ⟨⟨n_, v6, v7, v8, v9, v10, v11, v12⟩, h27⟩ Q1601 qn1601 qx1601 qr1601
    rcases n_ with _ | n30
    · rw [inline_writer_send_l1.eq_1] at h27
      cases h27
    · replace h27 := (inline_writer_send_l1.eq_2 _ _ _ _ _ _ _ _ _ _).symm.trans h27
      refine COk.seqQ fun Q1602 qn1602 qx1602 qr1602 => ?_
      refine COk.seqQ fun Q1603 qn1603 qx1603 qr1603 => ?_
      refine gor hn ?_
      refine qn1603 _ _ ?_
      refine goc hn ?_
      refine bselM h27 (fun hb31 h27 => ?_) (fun hb31 h27 => ?_)
      · refine gok hn ?_
        refine qn1602 _ _ ?_
        refine COk.seqQ fun Q1604 qn1604 qx1604 qr1604 => ?_
        refine COk.blkQ fun Q1606 qn1606 qe1606 qx1606 qr1606 => ?_
        refine gor hn ?_
        refine Or.inr ?_
        obtain ⟨r32, hr33, h27⟩ := bindM h27
        show CallOk Try.prog _ _ _ _
        refine CallOk.as (((((((inline_writer_put_ok N (⟨v6, v7, v8, v9, v10, v11⟩ : TWriter) (11 : Int) (wr (a0.temps + v12)) (0 : Int) (0 : Int) r32 hr33).sw 1001 604).sw 1002 605).sw 1003 606).sw 2 607).sw 3 608).sw 4 609) (by repeat (first | exact trivial | exact rfl | (refine And.intro ?_ ?_))) (by repeat (first | exact trivial | exact rfl | (refine And.intro ?_ ?_))) rfl ?_
        refine qn1606 _ _ ?_
        refine qn1604 _ _ ?_
        refine gor hn ?_
        refine Or.inr ?_
        refine qn1601 _ _ ?_
        refine EOk.done ?_
        exact ⟨⟨(n30, r32.w, r32.m, r32.out, r32.temps, r32.at_, r32.fix, (wr (v12 - (1 : Int)))), h27⟩, [(604, 607), (605, 608), (606, 609)], by show n30 < n30 + 1; omega, ⟨⟨rfl, (by repeat (first | exact trivial | exact rfl | (refine And.intro ?_ ?_))), rfl, rfl, trivial⟩, ⟨rfl, rfl, rfl, rfl, rfl, rfl, rfl, trivial⟩, rfl, rfl⟩⟩
      · refine goe hn ?_
        refine qx1602 _ _ _ ?_
        refine qx1601 _ _ _ ?_
        refine qe1600 _ _ ?_
        refine qn1599 _ _ ?_
        obtain rfl := Option.some.inj h27
        refine EOk.done ?_
        exact ⟨⟨_, rfl⟩, [], trivial, ⟨⟨rfl, (by repeat (first | exact trivial | exact rfl | (refine And.intro ?_ ?_))), rfl, trivial⟩, ⟨rfl, rfl, rfl, rfl, rfl, rfl, rfl, trivial⟩, rfl, rfl⟩⟩
  rintro ⟨⟨v20, v21, v22, v23, v24, v25⟩, rfl⟩
  refine qn1582 _ _ ?_
  refine COk.seqQ fun Q1607 qn1607 qx1607 qr1607 => ?_
  refine COk.seqQ fun Q1608 qn1608 qx1608 qr1608 => ?_
  refine gor hn ?_
  refine qn1608 _ _ ?_
  refine COk.rng 61 rfl (fun hrn => ?_)
  obtain ⟨o53, h54, h⟩ := bindM h
  refine COk.joinR (ι := { s : (Wd × Me × (List Ins) × Int × (List Int) × (List Int)) // o53 = s }) (fun s => [(0, .ptr 1000 0), (4, .fp (eMe a4)), (10, .int a0.temps)]) (fun s => [(604, .row 5 (List.map eIns s.1.2.2.1) 62), (605, .row 1 (List.map eInt s.1.2.2.2.2.1) 3), (606, .row 1 (List.map eInt s.1.2.2.2.2.2) 3), (1000, .box [.fp (eWd s.1.1), .fp (eMe s.1.2.1), .own 604, .int s.1.2.2.2.1, .own 605, .own 606] 107), (1001, .gone), (1002, .gone), (1003, .gone)]) (fun Q1636 qn1636 qx1636 qr1636 => ?_) (by intro s; rw [hn]; rfl) ?_
  · refine COk.blkQ fun Q1637 qn1637 qe1637 qx1637 qr1637 => ?_
    refine COk.loopQ (ι := { q : (Nat × Nat × Wd × Me × (List Ins) × Int × (List Int) × (List Int)) // q.1 = (a4.temps - (q.2.1 : Int)).toNat ∧ inline_writer_send_l2 N a0 a4 q.1 q.2.1 q.2.2.1 q.2.2.2.1 q.2.2.2.2.1 q.2.2.2.2.2.1 q.2.2.2.2.2.2.1 q.2.2.2.2.2.2.2 = some o53 }) (fun q => [(0, .ptr 1000 0), (4, .fp (eMe a4)), (10, .int a0.temps), (61, .int a4.temps), (62, .int (q.1.2.1 : Int))]) (fun q => [(604, .row 5 (List.map eIns q.1.2.2.2.2.1) 62), (605, .row 1 (List.map eInt q.1.2.2.2.2.2.2.1) 3), (606, .row 1 (List.map eInt q.1.2.2.2.2.2.2.2) 3), (1000, .box [.fp (eWd q.1.2.2.1), .fp (eMe q.1.2.2.2.1), .own 604, .int q.1.2.2.2.2.2.1, .own 605, .own 606] 107), (1001, .gone), (1002, .gone), (1003, .gone)]) (fun q => q.1.1) ⟨((a4.temps - ((0 : Nat) : Int)).toNat, 0, v20, v21, v22, v23, v24, v25), rfl, h54⟩ [] ⟨⟨rfl, (by repeat (first | exact trivial | exact rfl | (refine And.intro ?_ ?_))), rfl, rfl, rfl, trivial⟩, ⟨rfl, rfl, rfl, rfl, rfl, rfl, rfl, trivial⟩, rfl, rfl⟩ (by intro q; rw [hn]; rfl) ?_
    rintro ⟨⟨n_, k34, v35, v36, v37, v38, v39, v40⟩, hd56, h54⟩ Q1638 qn1638 qx1638 qr1638
    replace hd56 : n_ = (a4.temps - (k34 : Int)).toNat := hd56
    rcases n_ with _ | n57
    · have hlt60 := upNil hd56
      replace h54 := (inline_writer_send_l2.eq_1 _ _ _ _ _ _ _ _ _ _).symm.trans h54
      refine COk.seqQ fun Q1639 qn1639 qx1639 qr1639 => ?_
      refine gor hn ?_
      refine qn1639 _ _ ?_
      refine COk.seqQ fun Q1640 qn1640 qx1640 qr1640 => ?_
      refine goc hn ?_
      refine bselF hlt60 ?_
      refine goe hn ?_
      refine qx1640 _ _ _ ?_
      refine qx1638 _ _ _ ?_
      refine qe1637 _ _ ?_
      refine qn1636 _ _ ?_
      obtain rfl := Option.some.inj h54
      refine EOk.done ?_
      exact ⟨⟨_, rfl⟩, [], trivial, ⟨⟨rfl, (by repeat (first | exact trivial | exact rfl | (refine And.intro ?_ ?_))), rfl, trivial⟩, ⟨rfl, rfl, rfl, rfl, rfl, rfl, rfl, trivial⟩, rfl, rfl⟩⟩
    · obtain ⟨hd2, hlt60⟩ := upCons hd56
      replace h54 := (inline_writer_send_l2.eq_2 _ _ _ _ _ _ _ _ _ _ _).symm.trans h54
      refine COk.seqQ fun Q1641 qn1641 qx1641 qr1641 => ?_
      refine gor hn ?_
      refine qn1641 _ _ ?_
      refine COk.seqQ fun Q1642 qn1642 qx1642 qr1642 => ?_
      refine goc hn ?_
      refine bselT hlt60 ?_
      refine gok hn ?_
      refine qn1642 _ _ ?_
      refine COk.seqQ fun Q1643 qn1643 qx1643 qr1643 => ?_
      refine COk.blkQ fun Q1647 qn1647 qe1647 qx1647 qr1647 => ?_
      refine COk.seqQ fun Q1648 qn1648 qx1648 qr1648 => ?_
      refine gor hn ?_
      refine qn1648 _ _ ?_
      refine COk.seqQ fun Q1649 qn1649 qx1649 qr1649 => ?_
      refine gor hn ?_
      obtain ⟨r61, hr62, h54⟩ := bindM h54
      show CallOk Try.prog _ _ _ _
      refine CallOk.as (((((((inline_writer_put_ok N (⟨v35, v36, v37, v38, v39, v40⟩ : TWriter) (6 : Int) (0 : Int) (0 : Int) (0 : Int) r61 hr62).sw 1001 604).sw 1002 605).sw 1003 606).sw 2 610).sw 3 611).sw 4 612) (by repeat (first | exact trivial | exact rfl | (refine And.intro ?_ ?_))) (by repeat (first | exact trivial | exact rfl | (refine And.intro ?_ ?_))) rfl ?_
      refine qn1649 _ _ ?_
      refine gor hn ?_
      refine Or.inr ?_
      refine Or.inr ?_
      refine Or.inr ?_
      obtain ⟨r63, hr64, h54⟩ := bindM h54
      show CallOk Try.prog _ _ _ _
      refine CallOk.as (((((((inline_writer_put_ok N (⟨r61.w, r61.m, r61.out, r61.temps, r61.at_, r61.fix⟩ : TWriter) (11 : Int) (wr ((wr ((wr (a0.temps + (1 : Int))) + a4.args)) + (k34 : Int))) (0 : Int) (0 : Int) r63 hr64).sw 1001 610).sw 1002 611).sw 1003 612).sw 2 613).sw 3 614).sw 4 615) (by repeat (first | exact trivial | exact rfl | (refine And.intro ?_ ?_))) (by repeat (first | exact trivial | exact rfl | (refine And.intro ?_ ?_))) rfl ?_
      refine qn1647 _ _ ?_
      refine qn1643 _ _ ?_
      refine COk.sub (ts2 := [(0, .ptr 1000 0), (4, .fp (eMe a4)), (10, .int a0.temps), (61, .int a4.temps), (62, .int (k34 : Int))]) (os2 := [(613, .row 5 (List.map eIns r63.out) 62), (614, .row 1 (List.map eInt r63.at_) 3), (615, .row 1 (List.map eInt r63.fix) 3), (1000, .box [.fp (eWd r63.w), .fp (eMe r63.m), .own 613, .int r63.temps, .own 614, .own 615] 107), (1001, .gone), (1002, .gone), (1003, .gone)]) [] ⟨⟨rfl, (by repeat (first | exact trivial | exact rfl | (refine And.intro ?_ ?_))), rfl, rfl, rfl, trivial⟩, ⟨rfl, rfl, rfl, rfl, rfl, rfl, rfl, trivial⟩, rfl, rfl⟩ (by rw [hn]; rfl) ?_
      refine gor hn ?_
      refine Or.inl (And.intro (inrU hlt60 hrn) ?_)
      refine qn1638 _ _ ?_
      refine EOk.done ?_
      exact ⟨⟨(n57, k34 + 1, r63.w, r63.m, r63.out, r63.temps, r63.at_, r63.fix), hd2, h54⟩, [(604, 613), (605, 614), (606, 615)], by show n57 < n57 + 1; omega, ⟨⟨rfl, (by repeat (first | exact trivial | exact rfl | (refine And.intro ?_ ?_))), rfl, rfl, rfl, trivial⟩, ⟨rfl, rfl, rfl, rfl, rfl, rfl, rfl, trivial⟩, rfl, rfl⟩⟩
  rintro ⟨⟨v47, v48, v49, v50, v51, v52⟩, rfl⟩
  refine qn1607 _ _ ?_
  refine COk.seqQ fun Q1650 qn1650 qx1650 qr1650 => ?_
  refine gor hn ?_
  refine lenM (fun hl65 => ?_)
  refine qn1650 _ _ ?_
  refine COk.seqQ fun Q1651 qn1651 qx1651 qr1651 => ?_
  refine gor hn ?_
  refine lenM (fun hl66 => ?_)
  refine qn1651 _ _ ?_
  obtain ⟨o86, h87, h⟩ := bindM h
  refine COk.joinR (ι := { s : (Wd × Me × (List Ins) × Int × (List Int) × (List Int)) // o86 = s }) (fun s => [(0, .ptr 1000 0)]) (fun s => [(604, .row 5 (List.map eIns s.1.2.2.1) 62), (605, .row 1 (List.map eInt s.1.2.2.2.2.1) 3), (606, .row 1 (List.map eInt s.1.2.2.2.2.2) 3), (1000, .box [.fp (eWd s.1.1), .fp (eMe s.1.2.1), .own 604, .int s.1.2.2.2.1, .own 605, .own 606] 107), (1001, .gone), (1002, .gone), (1003, .gone)]) (fun Q2774 qn2774 qx2774 qr2774 => ?_) (by intro s; rw [hn]; rfl) ?_
  · refine COk.blkQ fun Q2775 qn2775 qe2775 qx2775 qr2775 => ?_
    refine COk.loopQ (ι := { q : ((List Ins) × Nat × Wd × Me × (List Ins) × Int × (List Int) × (List Int)) // q.1 = a4.code.drop q.2.1 ∧ inline_writer_send_l3 N a0 a4 v49 q.1 q.2.1 q.2.2.1 q.2.2.2.1 q.2.2.2.2.1 q.2.2.2.2.2.1 q.2.2.2.2.2.2.1 q.2.2.2.2.2.2.2 = some o86 }) (fun q => [(0, .ptr 1000 0), (4, .fp (eMe a4)), (10, .int a0.temps), (13, .int (v49.length : Int)), (87, .sl 5 (List.map eIns a4.code)), (88, .int (a4.code.length : Int)), (89, .int (q.1.2.1 : Int))]) (fun q => [(604, .row 5 (List.map eIns q.1.2.2.2.2.1) 62), (605, .row 1 (List.map eInt q.1.2.2.2.2.2.2.1) 3), (606, .row 1 (List.map eInt q.1.2.2.2.2.2.2.2) 3), (1000, .box [.fp (eWd q.1.2.2.1), .fp (eMe q.1.2.2.2.1), .own 604, .int q.1.2.2.2.2.2.1, .own 605, .own 606] 107), (1001, .gone), (1002, .gone), (1003, .gone)]) (fun q => q.1.1.length) ⟨(a4.code, 0, v47, v48, v49, v50, v51, v52), rfl, h87⟩ [] ⟨⟨rfl, (by repeat (first | exact trivial | exact rfl | (refine And.intro ?_ ?_))), rfl, rfl, (by repeat (first | exact trivial | exact rfl | (refine And.intro ?_ ?_))), rfl, rfl, trivial⟩, ⟨rfl, rfl, rfl, rfl, rfl, rfl, rfl, trivial⟩, rfl, rfl⟩ (by intro q; rw [hn]; rfl) ?_
    rintro ⟨⟨rest_, k67, v68, v69, v70, v71, v72, v73⟩, hd89, h87⟩ Q2776 qn2776 qx2776 qr2776
    replace hd89 : rest_ = a4.code.drop k67 := hd89
    rcases rest_ with _ | ⟨x91, rest88⟩
    · have hlt93 := restNil hd89
      replace h87 := (inline_writer_send_l3.eq_1 _ _ _ _ _ _ _ _ _ _ _).symm.trans h87
      refine COk.seqQ fun Q2777 qn2777 qx2777 qr2777 => ?_
      refine gor hn ?_
      refine qn2777 _ _ ?_
      refine COk.seqQ fun Q2778 qn2778 qx2778 qr2778 => ?_
      refine goc hn ?_
      refine bselF hlt93 ?_
      refine goe hn ?_
      refine qx2778 _ _ _ ?_
      refine qx2776 _ _ _ ?_
      refine qe2775 _ _ ?_
      refine qn2774 _ _ ?_
      obtain rfl := Option.some.inj h87
      refine EOk.done ?_
      exact ⟨⟨_, rfl⟩, [], trivial, ⟨⟨rfl, trivial⟩, ⟨rfl, rfl, rfl, rfl, rfl, rfl, rfl, trivial⟩, rfl, rfl⟩⟩
    · obtain ⟨hx92, hd2, hlt93⟩ := restCons hd89
      replace h87 := (inline_writer_send_l3.eq_2 _ _ _ _ _ _ _ _ _ _ _ _ _).symm.trans h87
      refine COk.seqQ fun Q2779 qn2779 qx2779 qr2779 => ?_
      refine gor hn ?_
      refine qn2779 _ _ ?_
      refine COk.seqQ fun Q2780 qn2780 qx2780 qr2780 => ?_
      refine goc hn ?_
      refine bselT hlt93 ?_
      refine gok hn ?_
      refine qn2780 _ _ ?_
      refine COk.seqQ fun Q2781 qn2781 qx2781 qr2781 => ?_
      refine COk.blkQ fun Q3131 qn3131 qe3131 qx3131 qr3131 => ?_
      refine COk.seqQ fun Q3132 qn3132 qx3132 qr3132 => ?_
      refine gor hn ?_
      refine idxK hx92 ?_
      refine qn3132 _ _ ?_
      refine COk.seqQ fun Q3133 qn3133 qx3133 qr3133 => ?_
      refine gor hn ?_
      refine qn3133 _ _ ?_
      refine COk.blkQ fun Q3134 qn3134 qe3134 qx3134 qr3134 => ?_
      refine COk.seqQ fun Q3135 qn3135 qx3135 qr3135 => ?_
      refine gor hn ?_
      refine qn3135 _ _ ?_
      obtain ⟨o101, h100, h87⟩ := bindM h87
      refine COk.joinR (ι := { s : (Wd × Me × (List Ins) × Int × (List Int) × (List Int)) // o101 = s }) (fun s => [(0, .ptr 1000 0), (4, .fp (eMe a4)), (10, .int a0.temps), (13, .int (v49.length : Int)), (87, .sl 5 (List.map eIns a4.code)), (88, .int (a4.code.length : Int)), (89, .int (k67 : Int))]) (fun s => [(616, .row 5 (List.map eIns s.1.2.2.1) 62), (617, .row 1 (List.map eInt s.1.2.2.2.2.1) 3), (618, .row 1 (List.map eInt s.1.2.2.2.2.2) 3), (1000, .box [.fp (eWd s.1.1), .fp (eMe s.1.2.1), .own 616, .int s.1.2.2.2.1, .own 617, .own 618] 107), (1001, .gone), (1002, .gone), (1003, .gone)]) (fun Q3136 qn3136 qx3136 qr3136 => ?_) (by intro s; rw [hn]; rfl) ?_
      · refine goc hn ?_
        refine bselM h100 (fun hb102 h100 => ?_) (fun hb102 h100 => ?_)
        · refine gor hn ?_
          obtain ⟨r103, hr104, h100⟩ := bindM h100
          show CallOk Try.prog _ _ _ _
          refine CallOk.as (((((((inline_writer_put_ok N (⟨v68, v69, v70, v71, v72, v73⟩ : TWriter) (3 : Int) a0.temps (0 : Int) (0 : Int) r103 hr104).sw 1001 604).sw 1002 605).sw 1003 606).sw 2 616).sw 3 617).sw 4 618) (by repeat (first | exact trivial | exact rfl | (refine And.intro ?_ ?_))) (by repeat (first | exact trivial | exact rfl | (refine And.intro ?_ ?_))) rfl ?_
          refine qn3136 _ _ ?_
          obtain rfl := Option.some.inj h100
          refine EOk.done ?_
          exact ⟨⟨_, rfl⟩, [], trivial, ⟨⟨rfl, (by repeat (first | exact trivial | exact rfl | (refine And.intro ?_ ?_))), rfl, rfl, (by repeat (first | exact trivial | exact rfl | (refine And.intro ?_ ?_))), rfl, rfl, trivial⟩, ⟨rfl, rfl, rfl, rfl, rfl, rfl, rfl, trivial⟩, rfl, rfl⟩⟩
        · refine COk.seqQ fun Q3137 qn3137 qx3137 qr3137 => ?_
          refine gor hn ?_
          refine qn3137 _ _ ?_
          obtain ⟨o112, h111, h100⟩ := bindM h100
          refine COk.joinR (ι := { s : (Wd × Me × (List Ins) × Int × (List Int) × (List Int)) // o112 = s }) (fun s => [(0, .ptr 1000 0), (4, .fp (eMe a4)), (10, .int a0.temps), (13, .int (v49.length : Int)), (87, .sl 5 (List.map eIns a4.code)), (88, .int (a4.code.length : Int)), (89, .int (k67 : Int))]) (fun s => [(619, .row 5 (List.map eIns s.1.2.2.1) 62), (620, .row 1 (List.map eInt s.1.2.2.2.2.1) 3), (621, .row 1 (List.map eInt s.1.2.2.2.2.2) 3), (1000, .box [.fp (eWd s.1.1), .fp (eMe s.1.2.1), .own 619, .int s.1.2.2.2.1, .own 620, .own 621] 107), (1001, .gone), (1002, .gone), (1003, .gone)]) (fun Q3138 qn3138 qx3138 qr3138 => ?_) (by intro s; rw [hn]; rfl) ?_
          · refine goc hn ?_
            refine bselM h111 (fun hb113 h111 => ?_) (fun hb113 h111 => ?_)
            · refine COk.sub (ts2 := [(0, .ptr 1000 0), (4, .fp (eMe a4)), (10, .int a0.temps), (13, .int (v49.length : Int)), (15, .ptr 15 0), (87, .sl 5 (List.map eIns a4.code)), (88, .int (a4.code.length : Int)), (89, .int (k67 : Int))]) (os2 := [(15, .box (eIns x91) 62), (604, .row 5 (List.map eIns v70) 62), (605, .row 1 (List.map eInt v72) 3), (606, .row 1 (List.map eInt v73) 3), (1000, .box [.fp (eWd v68), .fp (eMe v69), .own 604, .int v71, .own 605, .own 606] 107), (1001, .gone), (1002, .gone), (1003, .gone)]) [] ⟨⟨rfl, (by repeat (first | exact trivial | exact rfl | (refine And.intro ?_ ?_))), rfl, rfl, rfl, (by repeat (first | exact trivial | exact rfl | (refine And.intro ?_ ?_))), rfl, rfl, trivial⟩, ⟨rfl, rfl, rfl, rfl, rfl, rfl, rfl, rfl, trivial⟩, rfl, rfl⟩ (by rw [hn]; rfl) ?_
              refine gor hn ?_
              refine Or.inr ?_
              refine Or.inr ?_
              obtain ⟨r114, hr115, h111⟩ := bindM h111
              show CallOk Try.prog _ _ _ _
              refine CallOk.as (((((((inline_writer_put_ok N (⟨v68, v69, v70, v71, v72, v73⟩ : TWriter) (3 : Int) (wr ((wr (a0.temps + (1 : Int))) + x91.a)) (0 : Int) (0 : Int) r114 hr115).sw 1001 604).sw 1002 605).sw 1003 606).sw 2 619).sw 3 620).sw 4 621) (by repeat (first | exact trivial | exact rfl | (refine And.intro ?_ ?_))) (by repeat (first | exact trivial | exact rfl | (refine And.intro ?_ ?_))) rfl ?_
              refine qn3138 _ _ ?_
              obtain rfl := Option.some.inj h111
              refine EOk.done ?_
              exact ⟨⟨_, rfl⟩, [], trivial, ⟨⟨rfl, (by repeat (first | exact trivial | exact rfl | (refine And.intro ?_ ?_))), rfl, rfl, (by repeat (first | exact trivial | exact rfl | (refine And.intro ?_ ?_))), rfl, rfl, trivial⟩, ⟨rfl, rfl, rfl, rfl, rfl, rfl, rfl, trivial⟩, rfl, rfl⟩⟩
            · refine COk.seqQ fun Q3139 qn3139 qx3139 qr3139 => ?_
              refine COk.seqQ fun Q3140 qn3140 qx3140 qr3140 => ?_
              refine COk.sub (ts2 := [(0, .ptr 1000 0), (4, .fp (eMe a4)), (10, .int a0.temps), (13, .int (v49.length : Int)), (15, .ptr 15 0), (87, .sl 5 (List.map eIns a4.code)), (88, .int (a4.code.length : Int)), (89, .int (k67 : Int)), (94, .int x91.op)]) (os2 := [(15, .box (eIns x91) 62), (604, .row 5 (List.map eIns v70) 62), (605, .row 1 (List.map eInt v72) 3), (606, .row 1 (List.map eInt v73) 3), (1000, .box [.fp (eWd v68), .fp (eMe v69), .own 604, .int v71, .own 605, .own 606] 107), (1001, .gone), (1002, .gone), (1003, .gone)]) [] ⟨⟨rfl, (by repeat (first | exact trivial | exact rfl | (refine And.intro ?_ ?_))), rfl, rfl, rfl, (by repeat (first | exact trivial | exact rfl | (refine And.intro ?_ ?_))), rfl, rfl, rfl, trivial⟩, ⟨rfl, rfl, rfl, rfl, rfl, rfl, rfl, rfl, trivial⟩, rfl, rfl⟩ (by rw [hn]; rfl) ?_
              refine gor hn ?_
              refine qn3140 _ _ ?_
              obtain ⟨o118, h117, h111⟩ := bindM h111
              refine COk.joinR (ι := { s : Bool // o118 = s }) (fun s => [(0, .ptr 1000 0), (4, .fp (eMe a4)), (10, .int a0.temps), (13, .int (v49.length : Int)), (15, .ptr 15 0), (87, .sl 5 (List.map eIns a4.code)), (88, .int (a4.code.length : Int)), (89, .int (k67 : Int)), (94, .int x91.op), (115, .bool s.1)]) (fun s => [(15, .box (eIns x91) 62), (604, .row 5 (List.map eIns v70) 62), (605, .row 1 (List.map eInt v72) 3), (606, .row 1 (List.map eInt v73) 3), (1000, .box [.fp (eWd v68), .fp (eMe v69), .own 604, .int v71, .own 605, .own 606] 107), (1001, .gone), (1002, .gone), (1003, .gone)]) (fun Q3141 qn3141 qx3141 qr3141 => ?_) (by intro s; rw [hn]; rfl) ?_
              · refine goc hn ?_
                refine bselM h117 (fun hb119 h117 => ?_) (fun hb119 h117 => ?_)
                · refine gok hn ?_
                  refine qn3141 _ _ ?_
                  obtain rfl := Option.some.inj h117
                  refine EOk.done ?_
                  exact ⟨⟨_, rfl⟩, [], trivial, ⟨⟨rfl, (by repeat (first | exact trivial | exact rfl | (refine And.intro ?_ ?_))), rfl, rfl, rfl, (by repeat (first | exact trivial | exact rfl | (refine And.intro ?_ ?_))), rfl, rfl, rfl, rfl, trivial⟩, ⟨rfl, rfl, rfl, rfl, rfl, rfl, rfl, rfl, trivial⟩, rfl, rfl⟩⟩
                · refine gor hn ?_
                  refine qn3141 _ _ ?_
                  obtain rfl := Option.some.inj h117
                  refine EOk.done ?_
                  exact ⟨⟨_, rfl⟩, [], trivial, ⟨⟨rfl, (by repeat (first | exact trivial | exact rfl | (refine And.intro ?_ ?_))), rfl, rfl, rfl, (by repeat (first | exact trivial | exact rfl | (refine And.intro ?_ ?_))), rfl, rfl, rfl, rfl, trivial⟩, ⟨rfl, rfl, rfl, rfl, rfl, rfl, rfl, rfl, trivial⟩, rfl, rfl⟩⟩
              rintro ⟨v116, hv_⟩
              replace hv_ := hv_.symm
              subst hv_
              refine qn3139 _ _ ?_
              obtain ⟨o127, h126, h111⟩ := bindM h111
              refine COk.joinR (ι := { s : (Wd × Me × (List Ins) × Int × (List Int) × (List Int)) // o127 = s }) (fun s => [(0, .ptr 1000 0), (4, .fp (eMe a4)), (10, .int a0.temps), (13, .int (v49.length : Int)), (87, .sl 5 (List.map eIns a4.code)), (88, .int (a4.code.length : Int)), (89, .int (k67 : Int))]) (fun s => [(622, .row 5 (List.map eIns s.1.2.2.1) 62), (623, .row 1 (List.map eInt s.1.2.2.2.2.1) 3), (624, .row 1 (List.map eInt s.1.2.2.2.2.2) 3), (1000, .box [.fp (eWd s.1.1), .fp (eMe s.1.2.1), .own 622, .int s.1.2.2.2.1, .own 623, .own 624] 107), (1001, .gone), (1002, .gone), (1003, .gone)]) (fun Q3142 qn3142 qx3142 qr3142 => ?_) (by intro s; rw [hn]; rfl) ?_
              · refine goc hn ?_
                refine bselM h126 (fun hb128 h126 => ?_) (fun hb128 h126 => ?_)
                · refine god hn (by kernel_rfl) ?_
                  refine Or.inr ?_
                  refine Or.inr ?_
                  refine Or.inr ?_
                  obtain ⟨r129, hr130, h126⟩ := bindM h126
                  show CallOk Try.prog _ _ _ _
                  refine CallOk.as (((((((inline_writer_put_ok N (⟨v68, v69, v70, v71, v72, v73⟩ : TWriter) x91.op (wr ((wr ((wr (a0.temps + (1 : Int))) + a4.args)) + x91.a)) (0 : Int) (0 : Int) r129 hr130).sw 1001 604).sw 1002 605).sw 1003 606).sw 2 622).sw 3 623).sw 4 624) (by repeat (first | exact trivial | exact rfl | (refine And.intro ?_ ?_))) (by repeat (first | exact trivial | exact rfl | (refine And.intro ?_ ?_))) rfl ?_
                  refine qn3142 _ _ ?_
                  obtain rfl := Option.some.inj h126
                  refine EOk.done ?_
                  exact ⟨⟨_, rfl⟩, [], trivial, ⟨⟨rfl, (by repeat (first | exact trivial | exact rfl | (refine And.intro ?_ ?_))), rfl, rfl, (by repeat (first | exact trivial | exact rfl | (refine And.intro ?_ ?_))), rfl, rfl, trivial⟩, ⟨rfl, rfl, rfl, rfl, rfl, rfl, rfl, trivial⟩, rfl, rfl⟩⟩
                · refine COk.seqQ fun Q3143 qn3143 qx3143 qr3143 => ?_
                  refine gor hn ?_
                  refine qn3143 _ _ ?_
                  obtain ⟨o138, h137, h126⟩ := bindM h126
                  refine COk.joinR (ι := { s : (Wd × Me × (List Ins) × Int × (List Int) × (List Int)) // o138 = s }) (fun s => [(0, .ptr 1000 0), (4, .fp (eMe a4)), (10, .int a0.temps), (13, .int (v49.length : Int)), (87, .sl 5 (List.map eIns a4.code)), (88, .int (a4.code.length : Int)), (89, .int (k67 : Int))]) (fun s => [(625, .row 5 (List.map eIns s.1.2.2.1) 62), (626, .row 1 (List.map eInt s.1.2.2.2.2.1) 3), (627, .row 1 (List.map eInt s.1.2.2.2.2.2) 3), (1000, .box [.fp (eWd s.1.1), .fp (eMe s.1.2.1), .own 625, .int s.1.2.2.2.1, .own 626, .own 627] 107), (1001, .gone), (1002, .gone), (1003, .gone)]) (fun Q3144 qn3144 qx3144 qr3144 => ?_) (by intro s; rw [hn]; rfl) ?_
                  · refine goc hn ?_
                    refine bselM h137 (fun hb139 h137 => ?_) (fun hb139 h137 => ?_)
                    · refine gor hn ?_
                      obtain ⟨r140, hr141, h137⟩ := bindM h137
                      show CallOk Try.prog _ _ _ _
                      refine CallOk.as (((((((inline_writer_put_ok N (⟨v68, v69, v70, v71, v72, v73⟩ : TWriter) (19 : Int) a0.temps x91.a (0 : Int) r140 hr141).sw 1001 604).sw 1002 605).sw 1003 606).sw 2 625).sw 3 626).sw 4 627) (by repeat (first | exact trivial | exact rfl | (refine And.intro ?_ ?_))) (by repeat (first | exact trivial | exact rfl | (refine And.intro ?_ ?_))) rfl ?_
                      refine qn3144 _ _ ?_
                      obtain rfl := Option.some.inj h137
                      refine EOk.done ?_
                      exact ⟨⟨_, rfl⟩, [], trivial, ⟨⟨rfl, (by repeat (first | exact trivial | exact rfl | (refine And.intro ?_ ?_))), rfl, rfl, (by repeat (first | exact trivial | exact rfl | (refine And.intro ?_ ?_))), rfl, rfl, trivial⟩, ⟨rfl, rfl, rfl, rfl, rfl, rfl, rfl, trivial⟩, rfl, rfl⟩⟩
                    · refine COk.seqQ fun Q3145 qn3145 qx3145 qr3145 => ?_
                      refine gor hn ?_
                      refine qn3145 _ _ ?_
                      obtain ⟨o149, h148, h137⟩ := bindM h137
                      refine COk.joinR (ι := { s : (Wd × Me × (List Ins) × Int × (List Int) × (List Int)) // o149 = s }) (fun s => [(0, .ptr 1000 0), (4, .fp (eMe a4)), (10, .int a0.temps), (13, .int (v49.length : Int)), (87, .sl 5 (List.map eIns a4.code)), (88, .int (a4.code.length : Int)), (89, .int (k67 : Int))]) (fun s => [(628, .row 5 (List.map eIns s.1.2.2.1) 62), (629, .row 1 (List.map eInt s.1.2.2.2.2.1) 3), (630, .row 1 (List.map eInt s.1.2.2.2.2.2) 3), (1000, .box [.fp (eWd s.1.1), .fp (eMe s.1.2.1), .own 628, .int s.1.2.2.2.1, .own 629, .own 630] 107), (1001, .gone), (1002, .gone), (1003, .gone)]) (fun Q3146 qn3146 qx3146 qr3146 => ?_) (by intro s; rw [hn]; rfl) ?_
                      · refine goc hn ?_
                        refine bselM h148 (fun hb150 h148 => ?_) (fun hb150 h148 => ?_)
                        · refine gor hn ?_
                          obtain ⟨r151, hr152, h148⟩ := bindM h148
                          show CallOk Try.prog _ _ _ _
                          refine CallOk.as (((((((inline_writer_put_ok N (⟨v68, v69, v70, v71, v72, v73⟩ : TWriter) (20 : Int) a0.temps x91.a (0 : Int) r151 hr152).sw 1001 604).sw 1002 605).sw 1003 606).sw 2 628).sw 3 629).sw 4 630) (by repeat (first | exact trivial | exact rfl | (refine And.intro ?_ ?_))) (by repeat (first | exact trivial | exact rfl | (refine And.intro ?_ ?_))) rfl ?_
                          refine qn3146 _ _ ?_
                          obtain rfl := Option.some.inj h148
                          refine EOk.done ?_
                          exact ⟨⟨_, rfl⟩, [], trivial, ⟨⟨rfl, (by repeat (first | exact trivial | exact rfl | (refine And.intro ?_ ?_))), rfl, rfl, (by repeat (first | exact trivial | exact rfl | (refine And.intro ?_ ?_))), rfl, rfl, trivial⟩, ⟨rfl, rfl, rfl, rfl, rfl, rfl, rfl, trivial⟩, rfl, rfl⟩⟩
                        · refine COk.seqQ fun Q3147 qn3147 qx3147 qr3147 => ?_
                          refine COk.seqQ fun Q3148 qn3148 qx3148 qr3148 => ?_
                          refine gor hn ?_
                          refine qn3148 _ _ ?_
                          obtain ⟨o155, h154, h148⟩ := bindM h148
                          refine COk.joinR (ι := { s : Bool // o155 = s }) (fun s => [(0, .ptr 1000 0), (4, .fp (eMe a4)), (10, .int a0.temps), (13, .int (v49.length : Int)), (15, .ptr 15 0), (87, .sl 5 (List.map eIns a4.code)), (88, .int (a4.code.length : Int)), (89, .int (k67 : Int)), (94, .int x91.op), (146, .bool s.1)]) (fun s => [(15, .box (eIns x91) 62), (604, .row 5 (List.map eIns v70) 62), (605, .row 1 (List.map eInt v72) 3), (606, .row 1 (List.map eInt v73) 3), (1000, .box [.fp (eWd v68), .fp (eMe v69), .own 604, .int v71, .own 605, .own 606] 107), (1001, .gone), (1002, .gone), (1003, .gone)]) (fun Q3149 qn3149 qx3149 qr3149 => ?_) (by intro s; rw [hn]; rfl) ?_
                          · refine goc hn ?_
                            refine bselM h154 (fun hb156 h154 => ?_) (fun hb156 h154 => ?_)
                            · refine gok hn ?_
                              refine qn3149 _ _ ?_
                              obtain rfl := Option.some.inj h154
                              refine EOk.done ?_
                              exact ⟨⟨_, rfl⟩, [], trivial, ⟨⟨rfl, (by repeat (first | exact trivial | exact rfl | (refine And.intro ?_ ?_))), rfl, rfl, rfl, (by repeat (first | exact trivial | exact rfl | (refine And.intro ?_ ?_))), rfl, rfl, rfl, rfl, trivial⟩, ⟨rfl, rfl, rfl, rfl, rfl, rfl, rfl, rfl, trivial⟩, rfl, rfl⟩⟩
                            · refine gor hn ?_
                              refine qn3149 _ _ ?_
                              obtain rfl := Option.some.inj h154
                              refine EOk.done ?_
                              exact ⟨⟨_, rfl⟩, [], trivial, ⟨⟨rfl, (by repeat (first | exact trivial | exact rfl | (refine And.intro ?_ ?_))), rfl, rfl, rfl, (by repeat (first | exact trivial | exact rfl | (refine And.intro ?_ ?_))), rfl, rfl, rfl, rfl, trivial⟩, ⟨rfl, rfl, rfl, rfl, rfl, rfl, rfl, rfl, trivial⟩, rfl, rfl⟩⟩
                          rintro ⟨v153, hv_⟩
                          replace hv_ := hv_.symm
                          subst hv_
                          refine qn3147 _ _ ?_
                          obtain ⟨o164, h163, h148⟩ := bindM h148
                          refine COk.joinR (ι := { s : (Wd × Me × (List Ins) × Int × (List Int) × (List Int)) // o164 = s }) (fun s => [(0, .ptr 1000 0), (4, .fp (eMe a4)), (10, .int a0.temps), (13, .int (v49.length : Int)), (87, .sl 5 (List.map eIns a4.code)), (88, .int (a4.code.length : Int)), (89, .int (k67 : Int))]) (fun s => [(631, .row 5 (List.map eIns s.1.2.2.1) 62), (632, .row 1 (List.map eInt s.1.2.2.2.2.1) 3), (633, .row 1 (List.map eInt s.1.2.2.2.2.2) 3), (1000, .box [.fp (eWd s.1.1), .fp (eMe s.1.2.1), .own 631, .int s.1.2.2.2.1, .own 632, .own 633] 107), (1001, .gone), (1002, .gone), (1003, .gone)]) (fun Q3150 qn3150 qx3150 qr3150 => ?_) (by intro s; rw [hn]; rfl) ?_
                          · refine goc hn ?_
                            refine bselM h163 (fun hb165 h163 => ?_) (fun hb165 h163 => ?_)
                            · refine gor hn ?_
                              refine Or.inr ?_
                              obtain ⟨r166, hr167, h163⟩ := bindM h163
                              show CallOk Try.prog _ _ _ _
                              refine CallOk.as (((((((inline_writer_put_ok N (⟨v68, v69, v70, v71, v72, v73⟩ : TWriter) x91.op (wr ((v49.length : Int) + x91.a)) (0 : Int) (0 : Int) r166 hr167).sw 1001 604).sw 1002 605).sw 1003 606).sw 2 631).sw 3 632).sw 4 633) (by repeat (first | exact trivial | exact rfl | (refine And.intro ?_ ?_))) (by repeat (first | exact trivial | exact rfl | (refine And.intro ?_ ?_))) rfl ?_
                              refine qn3150 _ _ ?_
                              obtain rfl := Option.some.inj h163
                              refine EOk.done ?_
                              exact ⟨⟨_, rfl⟩, [], trivial, ⟨⟨rfl, (by repeat (first | exact trivial | exact rfl | (refine And.intro ?_ ?_))), rfl, rfl, (by repeat (first | exact trivial | exact rfl | (refine And.intro ?_ ?_))), rfl, rfl, trivial⟩, ⟨rfl, rfl, rfl, rfl, rfl, rfl, rfl, trivial⟩, rfl, rfl⟩⟩
                            · refine COk.seqQ fun Q3151 qn3151 qx3151 qr3151 => ?_
                              refine gor hn ?_
                              refine qn3151 _ _ ?_
                              obtain ⟨o175, h174, h163⟩ := bindM h163
                              refine COk.joinR (ι := { s : (Wd × Me × (List Ins) × Int × (List Int) × (List Int)) // o175 = s }) (fun s => [(0, .ptr 1000 0), (4, .fp (eMe a4)), (10, .int a0.temps), (13, .int (v49.length : Int)), (87, .sl 5 (List.map eIns a4.code)), (88, .int (a4.code.length : Int)), (89, .int (k67 : Int))]) (fun s => [(634, .row 5 (List.map eIns s.1.2.2.1) 62), (635, .row 1 (List.map eInt s.1.2.2.2.2.1) 3), (636, .row 1 (List.map eInt s.1.2.2.2.2.2) 3), (1000, .box [.fp (eWd s.1.1), .fp (eMe s.1.2.1), .own 634, .int s.1.2.2.2.1, .own 635, .own 636] 107), (1001, .gone), (1002, .gone), (1003, .gone)]) (fun Q3152 qn3152 qx3152 qr3152 => ?_) (by intro s; rw [hn]; rfl) ?_
                              · refine goc hn ?_
                                refine bselM h174 (fun hb176 h174 => ?_) (fun hb176 h174 => ?_)
                                · refine gor hn ?_
                                  refine lenM (fun hl177 => ?_)
                                  refine Or.inr ?_
                                  obtain ⟨r178, hr179, h174⟩ := bindM h174
                                  show CallOk Try.prog _ _ _ _
                                  refine CallOk.as (((((((inline_writer_put_ok N (⟨v68, v69, v70, v71, v72, v73⟩ : TWriter) (15 : Int) (wr ((v49.length : Int) + (a4.code.length : Int))) (0 : Int) (0 : Int) r178 hr179).sw 1001 604).sw 1002 605).sw 1003 606).sw 2 634).sw 3 635).sw 4 636) (by repeat (first | exact trivial | exact rfl | (refine And.intro ?_ ?_))) (by repeat (first | exact trivial | exact rfl | (refine And.intro ?_ ?_))) rfl ?_
                                  refine qn3152 _ _ ?_
                                  obtain rfl := Option.some.inj h174
                                  refine EOk.done ?_
                                  exact ⟨⟨_, rfl⟩, [], trivial, ⟨⟨rfl, (by repeat (first | exact trivial | exact rfl | (refine And.intro ?_ ?_))), rfl, rfl, (by repeat (first | exact trivial | exact rfl | (refine And.intro ?_ ?_))), rfl, rfl, trivial⟩, ⟨rfl, rfl, rfl, rfl, rfl, rfl, rfl, trivial⟩, rfl, rfl⟩⟩
                                · refine gor hn ?_
                                  obtain ⟨r180, hr181, h174⟩ := bindM h174
                                  show CallOk Try.prog _ _ _ _
                                  refine CallOk.as (((((((inline_writer_put_ok N (⟨v68, v69, v70, v71, v72, v73⟩ : TWriter) x91.op x91.a (0 : Int) (0 : Int) r180 hr181).sw 1001 604).sw 1002 605).sw 1003 606).sw 2 637).sw 3 638).sw 4 639) (by repeat (first | exact trivial | exact rfl | (refine And.intro ?_ ?_))) (by repeat (first | exact trivial | exact rfl | (refine And.intro ?_ ?_))) rfl ?_
                                  refine qn3152 _ _ ?_
                                  obtain rfl := Option.some.inj h174
                                  refine EOk.done ?_
                                  exact ⟨⟨_, rfl⟩, [(634, 637), (635, 638), (636, 639)], trivial, ⟨⟨rfl, (by repeat (first | exact trivial | exact rfl | (refine And.intro ?_ ?_))), rfl, rfl, (by repeat (first | exact trivial | exact rfl | (refine And.intro ?_ ?_))), rfl, rfl, trivial⟩, ⟨rfl, rfl, rfl, rfl, rfl, rfl, rfl, trivial⟩, rfl, rfl⟩⟩
                              rintro ⟨⟨v168, v169, v170, v171, v172, v173⟩, rfl⟩
                              refine qn3150 _ _ ?_
                              obtain rfl := Option.some.inj h163
                              refine EOk.done ?_
                              exact ⟨⟨_, rfl⟩, [(631, 634), (632, 635), (633, 636)], trivial, ⟨⟨rfl, (by repeat (first | exact trivial | exact rfl | (refine And.intro ?_ ?_))), rfl, rfl, (by repeat (first | exact trivial | exact rfl | (refine And.intro ?_ ?_))), rfl, rfl, trivial⟩, ⟨rfl, rfl, rfl, rfl, rfl, rfl, rfl, trivial⟩, rfl, rfl⟩⟩
                          rintro ⟨⟨v157, v158, v159, v160, v161, v162⟩, rfl⟩
                          refine qn3146 _ _ ?_
                          obtain rfl := Option.some.inj h148
                          refine EOk.done ?_
                          exact ⟨⟨_, rfl⟩, [(628, 631), (629, 632), (630, 633)], trivial, ⟨⟨rfl, (by repeat (first | exact trivial | exact rfl | (refine And.intro ?_ ?_))), rfl, rfl, (by repeat (first | exact trivial | exact rfl | (refine And.intro ?_ ?_))), rfl, rfl, trivial⟩, ⟨rfl, rfl, rfl, rfl, rfl, rfl, rfl, trivial⟩, rfl, rfl⟩⟩
                      rintro ⟨⟨v142, v143, v144, v145, v146, v147⟩, rfl⟩
                      refine qn3144 _ _ ?_
                      obtain rfl := Option.some.inj h137
                      refine EOk.done ?_
                      exact ⟨⟨_, rfl⟩, [(625, 628), (626, 629), (627, 630)], trivial, ⟨⟨rfl, (by repeat (first | exact trivial | exact rfl | (refine And.intro ?_ ?_))), rfl, rfl, (by repeat (first | exact trivial | exact rfl | (refine And.intro ?_ ?_))), rfl, rfl, trivial⟩, ⟨rfl, rfl, rfl, rfl, rfl, rfl, rfl, trivial⟩, rfl, rfl⟩⟩
                  rintro ⟨⟨v131, v132, v133, v134, v135, v136⟩, rfl⟩
                  refine qn3142 _ _ ?_
                  obtain rfl := Option.some.inj h126
                  refine EOk.done ?_
                  exact ⟨⟨_, rfl⟩, [(622, 625), (623, 626), (624, 627)], trivial, ⟨⟨rfl, (by repeat (first | exact trivial | exact rfl | (refine And.intro ?_ ?_))), rfl, rfl, (by repeat (first | exact trivial | exact rfl | (refine And.intro ?_ ?_))), rfl, rfl, trivial⟩, ⟨rfl, rfl, rfl, rfl, rfl, rfl, rfl, trivial⟩, rfl, rfl⟩⟩
              rintro ⟨⟨v120, v121, v122, v123, v124, v125⟩, rfl⟩
              refine qn3138 _ _ ?_
              obtain rfl := Option.some.inj h111
              refine EOk.done ?_
              exact ⟨⟨_, rfl⟩, [(619, 622), (620, 623), (621, 624)], trivial, ⟨⟨rfl, (by repeat (first | exact trivial | exact rfl | (refine And.intro ?_ ?_))), rfl, rfl, (by repeat (first | exact trivial | exact rfl | (refine And.intro ?_ ?_))), rfl, rfl, trivial⟩, ⟨rfl, rfl, rfl, rfl, rfl, rfl, rfl, trivial⟩, rfl, rfl⟩⟩
          rintro ⟨⟨v105, v106, v107, v108, v109, v110⟩, rfl⟩
          refine qn3136 _ _ ?_
          obtain rfl := Option.some.inj h100
          refine EOk.done ?_
          exact ⟨⟨_, rfl⟩, [(616, 619), (617, 620), (618, 621)], trivial, ⟨⟨rfl, (by repeat (first | exact trivial | exact rfl | (refine And.intro ?_ ?_))), rfl, rfl, (by repeat (first | exact trivial | exact rfl | (refine And.intro ?_ ?_))), rfl, rfl, trivial⟩, ⟨rfl, rfl, rfl, rfl, rfl, rfl, rfl, trivial⟩, rfl, rfl⟩⟩
      rintro ⟨⟨v94, v95, v96, v97, v98, v99⟩, rfl⟩
      refine qn3134 _ _ ?_
      refine qn3131 _ _ ?_
      refine qn2781 _ _ ?_
      refine gor hn ?_
      refine Or.inl (And.intro (inrK hx92 hl66) ?_)
      refine qn2776 _ _ ?_
      refine EOk.done ?_
      exact ⟨⟨(rest88, k67 + 1, v94, v95, v96, v97, v98, v99), hd2, h87⟩, [(604, 616), (605, 617), (606, 618)], by show rest88.length < rest88.length + 1; omega, ⟨⟨rfl, (by repeat (first | exact trivial | exact rfl | (refine And.intro ?_ ?_))), rfl, rfl, (by repeat (first | exact trivial | exact rfl | (refine And.intro ?_ ?_))), rfl, rfl, trivial⟩, ⟨rfl, rfl, rfl, rfl, rfl, rfl, rfl, trivial⟩, rfl, rfl⟩⟩
  rintro ⟨⟨v80, v81, v82, v83, v84, v85⟩, rfl⟩
  obtain rfl := Option.some.inj h
  exact ⟨[(2, 604), (3, 605), (4, 606)], _, rfl, (by repeat (first | exact trivial | exact rfl | (refine And.intro ?_ ?_))), ⟨rfl, rfl, rfl, rfl, rfl, rfl, rfl, trivial⟩, rfl, rfl, rfl, rfl, rfl⟩

/- inline.Method -/
set_option maxRecDepth 100000 in
set_option maxHeartbeats 1000000 in
theorem inline_Method_ok (N : Nat) (a0 : Wd) (a1 : Int) (a2 : Int) (a3 : (List Int)) (r : (Fs × Bool)) (h : inline_Method N a0 a1 a2 a3 = some r) : Spec Try.prog 24 [] [.agg (eWd a0), .int a1, .int a2, .sl 1 (List.map eInt a3)] (.tup [.agg (eFs r.1), .bool r.2]) [] [] := by
  refine Spec.of tabOk Try.func24 rfl Try.ntmps24 (by kernel_rfl) rfl rfl rfl fun Γ hn => ?_
  unfold inline_Method at h
  refine COk.seqQ fun Q497 qn497 qx497 qr497 => ?_
  refine gor hn ?_
  refine qn497 _ _ ?_
  refine COk.seqQ fun Q498 qn498 qx498 qr498 => ?_
  refine COk.seqQ fun Q499 qn499 qx499 qr499 => ?_
  obtain ⟨o3, h2, h⟩ := bindM h
  refine COk.joinR (ι := { s : Bool // o3 = s }) (fun s => [(1, .int a1), (2, .int a2), (3, .sl 1 (List.map eInt a3)), (4, .ptr 4 0), (8, .ptr 8 0), (41, .bool s.1)]) (fun s => [(4, .box (eWd a0) 26), (8, .box [.int (0 : Int), .str ByteArray.empty, .int (0 : Int), .int (0 : Int), .nilsl] 53)]) (fun Q500 qn500 qx500 qr500 => ?_) (by intro s; rw [hn]; rfl) ?_
  · refine gor hn ?_
    refine bselM h2 (fun hb4 h2 => ?_) (fun hb4 h2 => ?_)
    · refine bselT hb4 ?_
      refine bselT hb4 ?_
      refine bselT hb4 ?_
      refine bselT hb4 ?_
      refine bselT hb4 ?_
      refine qn500 _ _ ?_
      obtain rfl := Option.some.inj h2
      refine EOk.done ?_
      exact ⟨⟨_, rfl⟩, [], trivial, ⟨⟨rfl, rfl, (by repeat (first | exact trivial | exact rfl | (refine And.intro ?_ ?_))), rfl, rfl, rfl, trivial⟩, ⟨rfl, rfl, trivial⟩, rfl, rfl⟩⟩
    · refine bselF hb4 ?_
      refine bselF hb4 ?_
      refine bselF hb4 ?_
      refine lenM (fun hl5 => ?_)
      refine bselF hb4 ?_
      refine bselF hb4 ?_
      refine bselM h2 (fun hb6 h2 => ?_) (fun hb6 h2 => ?_)
      · refine bselT hb6 ?_
        refine bselT hb6 ?_
        refine qn500 _ _ ?_
        obtain rfl := Option.some.inj h2
        refine EOk.done ?_
        exact ⟨⟨_, rfl⟩, [], trivial, ⟨⟨rfl, rfl, (by repeat (first | exact trivial | exact rfl | (refine And.intro ?_ ?_))), rfl, rfl, rfl, trivial⟩, ⟨rfl, rfl, trivial⟩, rfl, rfl⟩⟩
      · refine bselF hb6 ?_
        refine bselF hb6 ?_
        refine bselM h2 (fun hb7 h2 => ?_) (fun hb7 h2 => ?_)
        · refine bselT hb7 ?_
          refine bselT hb7 ?_
          refine bselT hb7 ?_
          refine bselT hb7 ?_
          refine bselT hb7 ?_
          refine bselT hb7 ?_
          refine bselT hb7 ?_
          refine bselT hb7 ?_
          refine bselT hb7 ?_
          refine qn500 _ _ ?_
          obtain rfl := Option.some.inj h2
          refine EOk.done ?_
          exact ⟨⟨_, rfl⟩, [], trivial, ⟨⟨rfl, rfl, (by repeat (first | exact trivial | exact rfl | (refine And.intro ?_ ?_))), rfl, rfl, rfl, trivial⟩, ⟨rfl, rfl, trivial⟩, rfl, rfl⟩⟩
        · refine bselF hb7 ?_
          refine bselF hb7 ?_
          refine bselF hb7 ?_
          refine bselF hb7 ?_
          obtain ⟨x8, hx9, h2⟩ := bindM h2
          refine idxM hx9 ?_
          refine bselF hb7 ?_
          refine bselF hb7 ?_
          refine bselF hb7 ?_
          refine lenM (fun hl10 => ?_)
          refine bselF hb7 ?_
          refine bselF hb7 ?_
          refine qn500 _ _ ?_
          obtain rfl := Option.some.inj h2
          refine EOk.done ?_
          exact ⟨⟨_, rfl⟩, [], trivial, ⟨⟨rfl, rfl, (by repeat (first | exact trivial | exact rfl | (refine And.intro ?_ ?_))), rfl, rfl, rfl, trivial⟩, ⟨rfl, rfl, trivial⟩, rfl, rfl⟩⟩
  rintro ⟨v1, hv_⟩
  replace hv_ := hv_.symm
  subst hv_
  refine qn499 _ _ ?_
  refine goc hn ?_
  refine bselM h (fun hb11 h => ?_) (fun hb11 h => ?_)
  · refine COk.seqQ fun Q502 qn502 qx502 qr502 => ?_
    refine gor hn ?_
    refine qn502 _ _ ?_
    refine got hn ?_
    refine qr498 _ _ ?_
    obtain rfl := Option.some.inj h
    exact ⟨[], _, rfl, (by repeat (first | exact trivial | exact rfl | (refine And.intro ?_ ?_))), trivial, rfl, rfl, rfl, rfl, rfl⟩
  · refine gok hn ?_
    refine qn498 _ _ ?_
    refine COk.seqQ fun Q503 qn503 qx503 qr503 => ?_
    refine gor hn ?_
    obtain ⟨x12, hx13, h⟩ := bindM h
    refine idxM hx13 ?_
    obtain ⟨x14, hx15, h⟩ := bindM h
    refine idxM hx15 ?_
    refine qn503 _ _ ?_
    refine COk.seqQ fun Q504 qn504 qx504 qr504 => ?_
    refine COk.gh (Gh.fzBox 4 4 rfl rfl rfl) (fun _ => ?_)
    refine COk.sub (ts2 := [(1, .int a1), (3, .sl 1 (List.map eInt a3)), (4, .fp (eWd a0)), (8, .ptr 8 0), (10, .fp (eMe x14))]) (os2 := [(8, .box [.int (0 : Int), .str ByteArray.empty, .int (0 : Int), .int (0 : Int), .nilsl] 53)]) [] ⟨⟨rfl, (by repeat (first | exact trivial | exact rfl | (refine And.intro ?_ ?_))), (by repeat (first | exact trivial | exact rfl | (refine And.intro ?_ ?_))), rfl, (by repeat (first | exact trivial | exact rfl | (refine And.intro ?_ ?_))), trivial⟩, ⟨rfl, trivial⟩, rfl, rfl⟩ (by rw [hn]; rfl) ?_
    refine gor hn ?_
    refine qn504 _ _ ?_
    refine COk.seqQ fun Q505 qn505 qx505 qr505 => ?_
    refine gor hn ?_
    refine qn505 _ _ ?_
    refine COk.seqQ fun Q506 qn506 qx506 qr506 => ?_
    refine COk.seqQ fun Q507 qn507 qx507 qr507 => ?_
    refine gor hn ?_
    refine lenM (fun hl16 => ?_)
    refine qn507 _ _ ?_
    refine COk.nilrowB 57 2 601 5 62 rfl rfl rfl rfl rfl rfl ?_
    refine COk.nilrowB 57 4 602 1 3 rfl rfl rfl rfl rfl rfl ?_
    refine COk.nilrowB 57 5 603 1 3 rfl rfl rfl rfl rfl rfl ?_
    obtain ⟨o39, h40, h⟩ := bindM h
    refine COk.joinR (ι := { s : (Wd × Me × (List Ins) × Int × (List Int) × (List Int) × Bool) // o39 = s }) (fun s => [(1, .int a1), (4, .fp (eWd a0)), (8, .ptr 8 0), (10, .fp (eMe x14)), (11, .ptr 57 0), (12, .bool s.1.2.2.2.2.2.2)]) (fun s => [(8, .box [.int (0 : Int), .str ByteArray.empty, .int (0 : Int), .int (0 : Int), .nilsl] 53), (57, .box [.fp (eWd s.1.1), .fp (eMe s.1.2.1), .own 601, .int s.1.2.2.2.1, .own 602, .own 603] 107), (601, .row 5 (List.map eIns s.1.2.2.1) 62), (602, .row 1 (List.map eInt s.1.2.2.2.2.1) 3), (603, .row 1 (List.map eInt s.1.2.2.2.2.2.1) 3)]) (fun Q858 qn858 qx858 qr858 => ?_) (by intro s; rw [hn]; rfl) ?_
    · refine COk.blkQ fun Q859 qn859 qe859 qx859 qr859 => ?_
      refine COk.loopQ (ι := { q : ((List Ins) × Nat × Wd × Me × (List Ins) × Int × (List Int) × (List Int) × Bool) // q.1 = x14.code.drop q.2.1 ∧ inline_Method_l1 N a3 x14 q.1 q.2.1 q.2.2.1 q.2.2.2.1 q.2.2.2.2.1 q.2.2.2.2.2.1 q.2.2.2.2.2.2.1 q.2.2.2.2.2.2.2.1 q.2.2.2.2.2.2.2.2 = some o39 }) (fun q => [(1, .int a1), (3, .sl 1 (List.map eInt a3)), (4, .fp (eWd a0)), (8, .ptr 8 0), (10, .fp (eMe x14)), (11, .ptr 57 0), (12, .bool q.1.2.2.2.2.2.2.2.2), (61, .sl 5 (List.map eIns x14.code)), (62, .int (x14.code.length : Int)), (63, .int (q.1.2.1 : Int))]) (fun q => [(8, .box [.int (0 : Int), .str ByteArray.empty, .int (0 : Int), .int (0 : Int), .nilsl] 53), (57, .box [.fp (eWd q.1.2.2.1), .fp (eMe q.1.2.2.2.1), .own 601, .int q.1.2.2.2.2.2.1, .own 602, .own 603] 107), (601, .row 5 (List.map eIns q.1.2.2.2.2.1) 62), (602, .row 1 (List.map eInt q.1.2.2.2.2.2.2.1) 3), (603, .row 1 (List.map eInt q.1.2.2.2.2.2.2.2.1) 3)]) (fun q => q.1.1.length) ⟨(x14.code, 0, a0, x14, ([] : List Ins), x14.temps, ([] : List Int), ([] : List Int), false), rfl, h40⟩ [] ⟨⟨rfl, (by repeat (first | exact trivial | exact rfl | (refine And.intro ?_ ?_))), (by repeat (first | exact trivial | exact rfl | (refine And.intro ?_ ?_))), rfl, (by repeat (first | exact trivial | exact rfl | (refine And.intro ?_ ?_))), rfl, rfl, (by repeat (first | exact trivial | exact rfl | (refine And.intro ?_ ?_))), rfl, rfl, trivial⟩, ⟨rfl, rfl, rfl, rfl, rfl, trivial⟩, rfl, rfl⟩ (by intro q; rw [hn]; rfl) ?_
      rintro ⟨⟨rest_, k17, v18, v19, v20, v21, v22, v23, v24⟩, hd42, h40⟩ Q860 qn860 qx860 qr860
      replace hd42 : rest_ = x14.code.drop k17 := hd42
      rcases rest_ with _ | ⟨x44, rest41⟩
      · have hlt46 := restNil hd42
        replace h40 := (inline_Method_l1.eq_1 _ _ _ _ _ _ _ _ _ _ _).symm.trans h40
        refine COk.seqQ fun Q861 qn861 qx861 qr861 => ?_
        refine gor hn ?_
        refine qn861 _ _ ?_
        refine COk.seqQ fun Q862 qn862 qx862 qr862 => ?_
        refine goc hn ?_
        refine bselF hlt46 ?_
        refine goe hn ?_
        refine qx862 _ _ _ ?_
        refine qx860 _ _ _ ?_
        refine qe859 _ _ ?_
        refine qn858 _ _ ?_
        obtain rfl := Option.some.inj h40
        refine EOk.done ?_
        exact ⟨⟨_, rfl⟩, [], trivial, ⟨⟨rfl, (by repeat (first | exact trivial | exact rfl | (refine And.intro ?_ ?_))), rfl, (by repeat (first | exact trivial | exact rfl | (refine And.intro ?_ ?_))), rfl, rfl, trivial⟩, ⟨rfl, rfl, rfl, rfl, rfl, trivial⟩, rfl, rfl⟩⟩
      · obtain ⟨hx45, hd2, hlt46⟩ := restCons hd42
        replace h40 := (inline_Method_l1.eq_2 _ _ _ _ _ _ _ _ _ _ _ _ _).symm.trans h40
        refine COk.seqQ fun Q863 qn863 qx863 qr863 => ?_
        refine gor hn ?_
        refine qn863 _ _ ?_
        refine COk.seqQ fun Q864 qn864 qx864 qr864 => ?_
        refine goc hn ?_
        refine bselT hlt46 ?_
        refine gok hn ?_
        refine qn864 _ _ ?_
        refine COk.seqQ fun Q865 qn865 qx865 qr865 => ?_
        obtain ⟨o55, h54, h40⟩ := bindM h40
        refine COk.joinR (ι := { s : (Wd × Me × (List Ins) × Int × (List Int) × (List Int) × Bool) // o55 = s }) (fun s => [(1, .int a1), (3, .sl 1 (List.map eInt a3)), (4, .fp (eWd a0)), (8, .ptr 8 0), (10, .fp (eMe x14)), (11, .ptr 57 0), (12, .bool s.1.2.2.2.2.2.2), (61, .sl 5 (List.map eIns x14.code)), (62, .int (x14.code.length : Int)), (63, .int (k17 : Int))]) (fun s => [(8, .box [.int (0 : Int), .str ByteArray.empty, .int (0 : Int), .int (0 : Int), .nilsl] 53), (57, .box [.fp (eWd s.1.1), .fp (eMe s.1.2.1), .own 203, .int s.1.2.2.2.1, .own 605, .own 188] 107), (188, .row 1 (List.map eInt s.1.2.2.2.2.2.1) 3), (203, .row 5 (List.map eIns s.1.2.2.1) 62), (605, .row 1 (List.map eInt s.1.2.2.2.2.1) 3)]) (fun Q909 qn909 qx909 qr909 => ?_) (by intro s; rw [hn]; rfl) ?_
        · refine COk.blkQ fun Q910 qn910 qe910 qx910 qr910 => ?_
          refine COk.seqQ fun Q911 qn911 qx911 qr911 => ?_
          refine gor hn ?_
          refine idxK hx45 ?_
          refine qn911 _ _ ?_
          refine COk.seqQ fun Q912 qn912 qx912 qr912 => ?_
          refine god hn (by kernel_rfl) ?_
          refine lenM (fun hl56 => ?_)
          refine Exists.intro (List.map eInt [(v20.length : Int)]) (And.intro (by repeat (first | exact trivial | exact rfl | (refine And.intro ?_ ?_))) ?_)
          obtain ⟨hg57, h54⟩ := guardM h54
          refine appM (l2 := [(v20.length : Int)]) hg57 (leLs_refl _) ?_
          refine qn912 _ _ ?_
          refine COk.seqQ fun Q913 qn913 qx913 qr913 => ?_
          refine COk.seqQ fun Q914 qn914 qx914 qr914 => ?_
          obtain ⟨o60, h59, h54⟩ := bindM h54
          refine COk.joinR (ι := { s : Bool // o60 = s }) (fun s => [(1, .int a1), (3, .sl 1 (List.map eInt a3)), (4, .fp (eWd a0)), (8, .ptr 8 0), (10, .fp (eMe x14)), (11, .ptr 57 0), (12, .bool v24), (13, .int (k17 : Int)), (14, .ptr 14 0), (61, .sl 5 (List.map eIns x14.code)), (62, .int (x14.code.length : Int)), (63, .int (k17 : Int)), (97, .bool s.1)]) (fun s => [(8, .box [.int (0 : Int), .str ByteArray.empty, .int (0 : Int), .int (0 : Int), .nilsl] 53), (14, .box (eIns x44) 62), (57, .box [.fp (eWd v18), .fp (eMe v19), .own 601, .int v21, .own 79, .own 603] 107), (79, .row 1 (List.map eInt (v22 ++ [(v20.length : Int)])) 3), (601, .row 5 (List.map eIns v20) 62), (603, .row 1 (List.map eInt v23) 3)]) (fun Q915 qn915 qx915 qr915 => ?_) (by intro s; rw [hn]; rfl) ?_
          · refine COk.sub (ts2 := [(1, .int a1), (3, .sl 1 (List.map eInt a3)), (4, .fp (eWd a0)), (8, .ptr 8 0), (10, .fp (eMe x14)), (11, .ptr 57 0), (12, .bool v24), (13, .int (k17 : Int)), (14, .ptr 14 0), (61, .sl 5 (List.map eIns x14.code)), (62, .int (x14.code.length : Int)), (63, .int (k17 : Int))]) (os2 := [(8, .box [.int (0 : Int), .str ByteArray.empty, .int (0 : Int), .int (0 : Int), .nilsl] 53), (14, .box (eIns x44) 62), (57, .box [.fp (eWd v18), .fp (eMe v19), .own 601, .int v21, .own 79, .own 603] 107), (79, .row 1 (List.map eInt (v22 ++ [(v20.length : Int)])) 3), (601, .row 5 (List.map eIns v20) 62), (603, .row 1 (List.map eInt v23) 3)]) [] ⟨⟨rfl, (by repeat (first | exact trivial | exact rfl | (refine And.intro ?_ ?_))), (by repeat (first | exact trivial | exact rfl | (refine And.intro ?_ ?_))), rfl, (by repeat (first | exact trivial | exact rfl | (refine And.intro ?_ ?_))), rfl, rfl, rfl, rfl, (by repeat (first | exact trivial | exact rfl | (refine And.intro ?_ ?_))), rfl, rfl, trivial⟩, ⟨rfl, rfl, rfl, rfl, rfl, rfl, trivial⟩, rfl, rfl⟩ (by rw [hn]; rfl) ?_
            refine gor hn ?_
            refine bselM h59 (fun hb61 h59 => ?_) (fun hb61 h59 => ?_)
            · refine bselT hb61 ?_
              refine bselT hb61 ?_
              refine lenM (fun hl62 => ?_)
              refine bselT hb61 ?_
              refine bselT hb61 ?_
              refine bselM h59 (fun hb63 h59 => ?_) (fun hb63 h59 => ?_)
              · refine bselT hb63 ?_
                refine bselT hb63 ?_
                obtain ⟨x64, hx65, h59⟩ := bindM h59
                refine idxM hx65 ?_
                refine bselT hb63 ?_
                refine bselT hb63 ?_
                refine bselT hb63 ?_
                refine qn915 _ _ ?_
                obtain rfl := Option.some.inj h59
                refine EOk.done ?_
                exact ⟨⟨_, rfl⟩, [], trivial, ⟨⟨rfl, (by repeat (first | exact trivial | exact rfl | (refine And.intro ?_ ?_))), (by repeat (first | exact trivial | exact rfl | (refine And.intro ?_ ?_))), rfl, (by repeat (first | exact trivial | exact rfl | (refine And.intro ?_ ?_))), rfl, rfl, rfl, rfl, (by repeat (first | exact trivial | exact rfl | (refine And.intro ?_ ?_))), rfl, rfl, rfl, trivial⟩, ⟨rfl, rfl, rfl, rfl, rfl, rfl, trivial⟩, rfl, rfl⟩⟩
              · refine bselF hb63 ?_
                refine bselF hb63 ?_
                refine bselF hb63 ?_
                refine bselF hb63 ?_
                refine bselF hb63 ?_
                refine qn915 _ _ ?_
                obtain rfl := Option.some.inj h59
                refine EOk.done ?_
                exact ⟨⟨_, rfl⟩, [], trivial, ⟨⟨rfl, (by repeat (first | exact trivial | exact rfl | (refine And.intro ?_ ?_))), (by repeat (first | exact trivial | exact rfl | (refine And.intro ?_ ?_))), rfl, (by repeat (first | exact trivial | exact rfl | (refine And.intro ?_ ?_))), rfl, rfl, rfl, rfl, (by repeat (first | exact trivial | exact rfl | (refine And.intro ?_ ?_))), rfl, rfl, rfl, trivial⟩, ⟨rfl, rfl, rfl, rfl, rfl, rfl, trivial⟩, rfl, rfl⟩⟩
            · refine bselF hb61 ?_
              refine bselF hb61 ?_
              refine bselF hb61 ?_
              refine bselF hb61 ?_
              refine qn915 _ _ ?_
              obtain rfl := Option.some.inj h59
              refine EOk.done ?_
              exact ⟨⟨_, rfl⟩, [], trivial, ⟨⟨rfl, (by repeat (first | exact trivial | exact rfl | (refine And.intro ?_ ?_))), (by repeat (first | exact trivial | exact rfl | (refine And.intro ?_ ?_))), rfl, (by repeat (first | exact trivial | exact rfl | (refine And.intro ?_ ?_))), rfl, rfl, rfl, rfl, (by repeat (first | exact trivial | exact rfl | (refine And.intro ?_ ?_))), rfl, rfl, rfl, trivial⟩, ⟨rfl, rfl, rfl, rfl, rfl, rfl, trivial⟩, rfl, rfl⟩⟩
          rintro ⟨v58, hv_⟩
          replace hv_ := hv_.symm
          subst hv_
          refine qn914 _ _ ?_
          refine goc hn ?_
          refine bselM h54 (fun hb66 h54 => ?_) (fun hb66 h54 => ?_)
          · refine COk.seqQ fun Q924 qn924 qx924 qr924 => ?_
            refine god hn (by kernel_rfl) ?_
            obtain ⟨x67, hx68, h54⟩ := bindM h54
            refine idxM hx68 ?_
            obtain ⟨r69, hr70, h54⟩ := bindM h54
            show CallOk Try.prog _ _ _ _
            refine CallOk.as ((((((((inline_writer_callee_ok N (⟨v18, v19, v20, v21, (v22 ++ [(v20.length : Int)]), v23⟩ : TWriter) x67 x44.name r69 hr70).sw 1000 57).sw 1001 601).sw 1002 79).sw 1003 603).sw 2 604).sw 3 605).sw 4 606) (by repeat (first | exact trivial | exact rfl | (refine And.intro ?_ ?_))) (by repeat (first | exact trivial | exact rfl | (refine And.intro ?_ ?_))) rfl ?_
            rcases r69 with ⟨_ | x72, w71⟩
            · refine qn924 _ _ ?_
              refine COk.seqQ fun Q925 qn925 qx925 qr925 => ?_
              refine COk.sub (ts2 := [(1, .int a1), (3, .sl 1 (List.map eInt a3)), (4, .fp (eWd a0)), (8, .ptr 8 0), (10, .fp (eMe x14)), (11, .ptr 57 0), (12, .bool v24), (13, .int (k17 : Int)), (14, .ptr 14 0), (15, .nilp), (61, .sl 5 (List.map eIns x14.code)), (62, .int (x14.code.length : Int)), (63, .int (k17 : Int))]) (os2 := [(8, .box [.int (0 : Int), .str ByteArray.empty, .int (0 : Int), .int (0 : Int), .nilsl] 53), (14, .box (eIns x44) 62), (57, .box [.fp (eWd w71.w), .fp (eMe w71.m), .own 604, .int w71.temps, .own 605, .own 606] 107), (604, .row 5 (List.map eIns w71.out) 62), (605, .row 1 (List.map eInt w71.at_) 3), (606, .row 1 (List.map eInt w71.fix) 3)]) [] ⟨⟨rfl, (by repeat (first | exact trivial | exact rfl | (refine And.intro ?_ ?_))), (by repeat (first | exact trivial | exact rfl | (refine And.intro ?_ ?_))), rfl, (by repeat (first | exact trivial | exact rfl | (refine And.intro ?_ ?_))), rfl, rfl, rfl, rfl, (by repeat (first | exact trivial | exact rfl | (refine And.intro ?_ ?_))), (by repeat (first | exact trivial | exact rfl | (refine And.intro ?_ ?_))), rfl, rfl, trivial⟩, ⟨rfl, rfl, rfl, rfl, rfl, rfl, trivial⟩, rfl, rfl⟩ (by rw [hn]; rfl) ?_
              refine god hn (by kernel_rfl) ?_
              refine qn925 _ _ ?_
              refine goc hn ?_
              refine gok hn ?_
              refine qn913 _ _ ?_
              refine COk.seqQ fun Q926 qn926 qx926 qr926 => ?_
              refine COk.seqQ fun Q927 qn927 qx927 qr927 => ?_
              obtain ⟨o75, h74, h54⟩ := bindM h54
              refine COk.joinR (ι := { s : Bool // o75 = s }) (fun s => [(1, .int a1), (3, .sl 1 (List.map eInt a3)), (4, .fp (eWd a0)), (8, .ptr 8 0), (10, .fp (eMe x14)), (11, .ptr 57 0), (12, .bool v24), (13, .int (k17 : Int)), (14, .ptr 14 0), (61, .sl 5 (List.map eIns x14.code)), (62, .int (x14.code.length : Int)), (63, .int (k17 : Int)), (176, .bool s.1)]) (fun s => [(8, .box [.int (0 : Int), .str ByteArray.empty, .int (0 : Int), .int (0 : Int), .nilsl] 53), (14, .box (eIns x44) 62), (57, .box [.fp (eWd w71.w), .fp (eMe w71.m), .own 604, .int w71.temps, .own 605, .own 606] 107), (604, .row 5 (List.map eIns w71.out) 62), (605, .row 1 (List.map eInt w71.at_) 3), (606, .row 1 (List.map eInt w71.fix) 3)]) (fun Q928 qn928 qx928 qr928 => ?_) (by intro s; rw [hn]; rfl) ?_
              · refine COk.sub (ts2 := [(1, .int a1), (3, .sl 1 (List.map eInt a3)), (4, .fp (eWd a0)), (8, .ptr 8 0), (10, .fp (eMe x14)), (11, .ptr 57 0), (12, .bool v24), (13, .int (k17 : Int)), (14, .ptr 14 0), (61, .sl 5 (List.map eIns x14.code)), (62, .int (x14.code.length : Int)), (63, .int (k17 : Int))]) (os2 := [(8, .box [.int (0 : Int), .str ByteArray.empty, .int (0 : Int), .int (0 : Int), .nilsl] 53), (14, .box (eIns x44) 62), (57, .box [.fp (eWd w71.w), .fp (eMe w71.m), .own 604, .int w71.temps, .own 605, .own 606] 107), (604, .row 5 (List.map eIns w71.out) 62), (605, .row 1 (List.map eInt w71.at_) 3), (606, .row 1 (List.map eInt w71.fix) 3)]) [] ⟨⟨rfl, (by repeat (first | exact trivial | exact rfl | (refine And.intro ?_ ?_))), (by repeat (first | exact trivial | exact rfl | (refine And.intro ?_ ?_))), rfl, (by repeat (first | exact trivial | exact rfl | (refine And.intro ?_ ?_))), rfl, rfl, rfl, rfl, (by repeat (first | exact trivial | exact rfl | (refine And.intro ?_ ?_))), rfl, rfl, trivial⟩, ⟨rfl, rfl, rfl, rfl, rfl, rfl, trivial⟩, rfl, rfl⟩ (by rw [hn]; rfl) ?_
                refine gor hn ?_
                refine bselM h74 (fun hb76 h74 => ?_) (fun hb76 h74 => ?_)
                · refine bselT hb76 ?_
                  refine bselT hb76 ?_
                  refine bselT hb76 ?_
                  refine qn928 _ _ ?_
                  obtain rfl := Option.some.inj h74
                  refine EOk.done ?_
                  exact ⟨⟨_, rfl⟩, [], trivial, ⟨⟨rfl, (by repeat (first | exact trivial | exact rfl | (refine And.intro ?_ ?_))), (by repeat (first | exact trivial | exact rfl | (refine And.intro ?_ ?_))), rfl, (by repeat (first | exact trivial | exact rfl | (refine And.intro ?_ ?_))), rfl, rfl, rfl, rfl, (by repeat (first | exact trivial | exact rfl | (refine And.intro ?_ ?_))), rfl, rfl, rfl, trivial⟩, ⟨rfl, rfl, rfl, rfl, rfl, rfl, trivial⟩, rfl, rfl⟩⟩
                · refine bselF hb76 ?_
                  refine bselF hb76 ?_
                  refine bselF hb76 ?_
                  refine qn928 _ _ ?_
                  obtain rfl := Option.some.inj h74
                  refine EOk.done ?_
                  exact ⟨⟨_, rfl⟩, [], trivial, ⟨⟨rfl, (by repeat (first | exact trivial | exact rfl | (refine And.intro ?_ ?_))), (by repeat (first | exact trivial | exact rfl | (refine And.intro ?_ ?_))), rfl, (by repeat (first | exact trivial | exact rfl | (refine And.intro ?_ ?_))), rfl, rfl, rfl, rfl, (by repeat (first | exact trivial | exact rfl | (refine And.intro ?_ ?_))), rfl, rfl, rfl, trivial⟩, ⟨rfl, rfl, rfl, rfl, rfl, rfl, trivial⟩, rfl, rfl⟩⟩
              rintro ⟨v73, hv_⟩
              replace hv_ := hv_.symm
              subst hv_
              refine qn927 _ _ ?_
              obtain ⟨o79, h78, h54⟩ := bindM h54
              refine COk.joinR (ι := { s : (List Int) // o79 = s }) (fun s => [(1, .int a1), (3, .sl 1 (List.map eInt a3)), (4, .fp (eWd a0)), (8, .ptr 8 0), (10, .fp (eMe x14)), (11, .ptr 57 0), (12, .bool v24), (13, .int (k17 : Int)), (14, .ptr 14 0), (61, .sl 5 (List.map eIns x14.code)), (62, .int (x14.code.length : Int)), (63, .int (k17 : Int))]) (fun s => [(8, .box [.int (0 : Int), .str ByteArray.empty, .int (0 : Int), .int (0 : Int), .nilsl] 53), (14, .box (eIns x44) 62), (57, .box [.fp (eWd w71.w), .fp (eMe w71.m), .own 604, .int w71.temps, .own 605, .own 188] 107), (188, .row 1 (List.map eInt s.1) 3), (604, .row 5 (List.map eIns w71.out) 62), (605, .row 1 (List.map eInt w71.at_) 3)]) (fun Q929 qn929 qx929 qr929 => ?_) (by intro s; rw [hn]; rfl) ?_
              · refine goc hn ?_
                refine bselM h78 (fun hb80 h78 => ?_) (fun hb80 h78 => ?_)
                · refine god hn (by kernel_rfl) ?_
                  refine lenM (fun hl81 => ?_)
                  refine Exists.intro (List.map eInt [(w71.out.length : Int)]) (And.intro (by repeat (first | exact trivial | exact rfl | (refine And.intro ?_ ?_))) ?_)
                  obtain ⟨hg82, h78⟩ := guardM h78
                  refine appM (l2 := [(w71.out.length : Int)]) hg82 (leLs_refl _) ?_
                  refine qn929 _ _ ?_
                  obtain rfl := Option.some.inj h78
                  refine EOk.done ?_
                  exact ⟨⟨_, rfl⟩, [], trivial, ⟨⟨rfl, (by repeat (first | exact trivial | exact rfl | (refine And.intro ?_ ?_))), (by repeat (first | exact trivial | exact rfl | (refine And.intro ?_ ?_))), rfl, (by repeat (first | exact trivial | exact rfl | (refine And.intro ?_ ?_))), rfl, rfl, rfl, rfl, (by repeat (first | exact trivial | exact rfl | (refine And.intro ?_ ?_))), rfl, rfl, trivial⟩, ⟨rfl, rfl, rfl, rfl, rfl, rfl, trivial⟩, rfl, rfl⟩⟩
                · refine gok hn ?_
                  refine qn929 _ _ ?_
                  obtain rfl := Option.some.inj h78
                  refine EOk.done ?_
                  exact ⟨⟨_, rfl⟩, [(188, 606)], trivial, ⟨⟨rfl, (by repeat (first | exact trivial | exact rfl | (refine And.intro ?_ ?_))), (by repeat (first | exact trivial | exact rfl | (refine And.intro ?_ ?_))), rfl, (by repeat (first | exact trivial | exact rfl | (refine And.intro ?_ ?_))), rfl, rfl, rfl, rfl, (by repeat (first | exact trivial | exact rfl | (refine And.intro ?_ ?_))), rfl, rfl, trivial⟩, ⟨rfl, rfl, rfl, rfl, rfl, rfl, trivial⟩, rfl, rfl⟩⟩
              rintro ⟨v77, hv_⟩
              replace hv_ := hv_.symm
              subst hv_
              refine qn926 _ _ ?_
              refine COk.seqQ fun Q930 qn930 qx930 qr930 => ?_
              refine COk.seqQ fun Q931 qn931 qx931 qr931 => ?_
              refine gor hn ?_
              refine qn931 _ _ ?_
              obtain ⟨o85, h84, h54⟩ := bindM h54
              refine COk.joinR (ι := { s : Ins // o85 = s }) (fun s => [(1, .int a1), (3, .sl 1 (List.map eInt a3)), (4, .fp (eWd a0)), (8, .ptr 8 0), (10, .fp (eMe x14)), (11, .ptr 57 0), (12, .bool v24), (14, .ptr 14 0), (61, .sl 5 (List.map eIns x14.code)), (62, .int (x14.code.length : Int)), (63, .int (k17 : Int))]) (fun s => [(8, .box [.int (0 : Int), .str ByteArray.empty, .int (0 : Int), .int (0 : Int), .nilsl] 53), (14, .box (eIns s.1) 62), (57, .box [.fp (eWd w71.w), .fp (eMe w71.m), .own 604, .int w71.temps, .own 605, .own 188] 107), (188, .row 1 (List.map eInt v77) 3), (604, .row 5 (List.map eIns w71.out) 62), (605, .row 1 (List.map eInt w71.at_) 3)]) (fun Q932 qn932 qx932 qr932 => ?_) (by intro s; rw [hn]; rfl) ?_
              · refine goc hn ?_
                refine bselM h84 (fun hb86 h84 => ?_) (fun hb86 h84 => ?_)
                · refine gor hn ?_
                  refine qn932 _ _ ?_
                  obtain rfl := Option.some.inj h84
                  refine EOk.done ?_
                  exact ⟨⟨_, rfl⟩, [], trivial, ⟨⟨rfl, (by repeat (first | exact trivial | exact rfl | (refine And.intro ?_ ?_))), (by repeat (first | exact trivial | exact rfl | (refine And.intro ?_ ?_))), rfl, (by repeat (first | exact trivial | exact rfl | (refine And.intro ?_ ?_))), rfl, rfl, rfl, (by repeat (first | exact trivial | exact rfl | (refine And.intro ?_ ?_))), rfl, rfl, trivial⟩, ⟨rfl, rfl, rfl, rfl, rfl, rfl, trivial⟩, rfl, rfl⟩⟩
                · refine gok hn ?_
                  refine qn932 _ _ ?_
                  obtain rfl := Option.some.inj h84
                  refine EOk.done ?_
                  exact ⟨⟨_, rfl⟩, [], trivial, ⟨⟨rfl, (by repeat (first | exact trivial | exact rfl | (refine And.intro ?_ ?_))), (by repeat (first | exact trivial | exact rfl | (refine And.intro ?_ ?_))), rfl, (by repeat (first | exact trivial | exact rfl | (refine And.intro ?_ ?_))), rfl, rfl, rfl, (by repeat (first | exact trivial | exact rfl | (refine And.intro ?_ ?_))), rfl, rfl, trivial⟩, ⟨rfl, rfl, rfl, rfl, rfl, rfl, trivial⟩, rfl, rfl⟩⟩
              rintro ⟨v83, hv_⟩
              replace hv_ := hv_.symm
              subst hv_
              refine qn930 _ _ ?_
              refine god hn (by kernel_rfl) ?_
              refine Exists.intro (List.map eIns [v83]) (And.intro (by repeat (first | exact trivial | exact rfl | (refine And.intro ?_ ?_))) ?_)
              obtain ⟨hg87, h54⟩ := guardM h54
              refine appM (l2 := [v83]) hg87 (leLs_refl _) ?_
              refine qn910 _ _ ?_
              refine qn909 _ _ ?_
              obtain rfl := Option.some.inj h54
              refine EOk.done ?_
              exact ⟨⟨_, rfl⟩, [], trivial, ⟨⟨rfl, (by repeat (first | exact trivial | exact rfl | (refine And.intro ?_ ?_))), (by repeat (first | exact trivial | exact rfl | (refine And.intro ?_ ?_))), rfl, (by repeat (first | exact trivial | exact rfl | (refine And.intro ?_ ?_))), rfl, rfl, (by repeat (first | exact trivial | exact rfl | (refine And.intro ?_ ?_))), rfl, rfl, trivial⟩, ⟨rfl, rfl, rfl, rfl, rfl, trivial⟩, rfl, rfl⟩⟩
            · refine qn924 _ _ ?_
              refine COk.seqQ fun Q933 qn933 qx933 qr933 => ?_
              obtain ⟨o90, h89, h54⟩ := bindM h54
              refine COk.joinR (ι := { s : Bool // o90 = s }) (fun s => [(1, .int a1), (3, .sl 1 (List.map eInt a3)), (4, .fp (eWd a0)), (8, .ptr 8 0), (10, .fp (eMe x14)), (11, .ptr 57 0), (12, .bool v24), (13, .int (k17 : Int)), (14, .ptr 14 0), (15, .fp (eMe x72)), (61, .sl 5 (List.map eIns x14.code)), (62, .int (x14.code.length : Int)), (63, .int (k17 : Int)), (159, .bool s.1)]) (fun s => [(8, .box [.int (0 : Int), .str ByteArray.empty, .int (0 : Int), .int (0 : Int), .nilsl] 53), (14, .box (eIns x44) 62), (57, .box [.fp (eWd w71.w), .fp (eMe w71.m), .own 604, .int w71.temps, .own 605, .own 606] 107), (604, .row 5 (List.map eIns w71.out) 62), (605, .row 1 (List.map eInt w71.at_) 3), (606, .row 1 (List.map eInt w71.fix) 3)]) (fun Q934 qn934 qx934 qr934 => ?_) (by intro s; rw [hn]; rfl) ?_
              · refine COk.sub (ts2 := [(1, .int a1), (3, .sl 1 (List.map eInt a3)), (4, .fp (eWd a0)), (8, .ptr 8 0), (10, .fp (eMe x14)), (11, .ptr 57 0), (12, .bool v24), (13, .int (k17 : Int)), (14, .ptr 14 0), (15, .fp (eMe x72)), (61, .sl 5 (List.map eIns x14.code)), (62, .int (x14.code.length : Int)), (63, .int (k17 : Int))]) (os2 := [(8, .box [.int (0 : Int), .str ByteArray.empty, .int (0 : Int), .int (0 : Int), .nilsl] 53), (14, .box (eIns x44) 62), (57, .box [.fp (eWd w71.w), .fp (eMe w71.m), .own 604, .int w71.temps, .own 605, .own 606] 107), (604, .row 5 (List.map eIns w71.out) 62), (605, .row 1 (List.map eInt w71.at_) 3), (606, .row 1 (List.map eInt w71.fix) 3)]) [] ⟨⟨rfl, (by repeat (first | exact trivial | exact rfl | (refine And.intro ?_ ?_))), (by repeat (first | exact trivial | exact rfl | (refine And.intro ?_ ?_))), rfl, (by repeat (first | exact trivial | exact rfl | (refine And.intro ?_ ?_))), rfl, rfl, rfl, rfl, (by repeat (first | exact trivial | exact rfl | (refine And.intro ?_ ?_))), (by repeat (first | exact trivial | exact rfl | (refine And.intro ?_ ?_))), rfl, rfl, trivial⟩, ⟨rfl, rfl, rfl, rfl, rfl, rfl, trivial⟩, rfl, rfl⟩ (by rw [hn]; rfl) ?_
                refine god hn (by kernel_rfl) ?_
                obtain ⟨r91, hr92, h89⟩ := bindM h89
                show CallOk Try.prog _ _ _ _
                refine CallOk.as (choose_Leaf_ok N x72 r91 hr92) (by repeat (first | exact trivial | exact rfl | (refine And.intro ?_ ?_))) trivial rfl ?_
                refine bselM h89 (fun hb93 h89 => ?_) (fun hb93 h89 => ?_)
                · refine bselT hb93 ?_
                  refine bselT hb93 ?_
                  refine bselT hb93 ?_
                  refine bselT hb93 ?_
                  refine bselT hb93 ?_
                  refine bselT hb93 ?_
                  refine bselT hb93 ?_
                  refine bselM h89 (fun hb94 h89 => ?_) (fun hb94 h89 => ?_)
                  · refine bselT hb94 ?_
                    refine bselT hb94 ?_
                    refine bselT hb94 ?_
                    refine bselT hb94 ?_
                    refine lenM (fun hl95 => ?_)
                    refine bselT hb94 ?_
                    refine bselT hb94 ?_
                    obtain ⟨r96, hr97, h89⟩ := bindM h89
                    show CallOk Try.prog _ _ _ _
                    refine CallOk.as (inline_size_ok N x72 r96 hr97) (by repeat (first | exact trivial | exact rfl | (refine And.intro ?_ ?_))) trivial rfl ?_
                    refine bselT hb94 ?_
                    refine Or.inr ?_
                    refine bselT hb94 ?_
                    refine bselT hb94 ?_
                    refine bselT hb94 ?_
                    refine bselT hb94 ?_
                    refine bselT hb94 ?_
                    refine lenM (fun hl98 => ?_)
                    refine bselT hb94 ?_
                    refine Or.inr ?_
                    refine bselT hb94 ?_
                    refine bselT hb94 ?_
                    refine Or.inr ?_
                    refine bselT hb94 ?_
                    refine bselT hb94 ?_
                    refine bselM h89 (fun hb99 h89 => ?_) (fun hb99 h89 => ?_)
                    · refine bselT hb99 ?_
                      refine bselT hb99 ?_
                      refine bselT hb99 ?_
                      refine bselT hb99 ?_
                      refine Or.inr ?_
                      refine bselT hb99 ?_
                      refine bselT hb99 ?_
                      refine bselT hb99 ?_
                      refine bselT hb99 ?_
                      refine bselT hb99 ?_
                      refine Or.inr ?_
                      refine bselT hb99 ?_
                      refine bselT hb99 ?_
                      refine bselT hb99 ?_
                      refine bselT hb99 ?_
                      refine bselT hb99 ?_
                      refine Or.inr ?_
                      refine bselT hb99 ?_
                      refine bselT hb99 ?_
                      refine qn934 _ _ ?_
                      obtain rfl := Option.some.inj h89
                      refine EOk.done ?_
                      exact ⟨⟨_, rfl⟩, [], trivial, ⟨⟨rfl, (by repeat (first | exact trivial | exact rfl | (refine And.intro ?_ ?_))), (by repeat (first | exact trivial | exact rfl | (refine And.intro ?_ ?_))), rfl, (by repeat (first | exact trivial | exact rfl | (refine And.intro ?_ ?_))), rfl, rfl, rfl, rfl, (by repeat (first | exact trivial | exact rfl | (refine And.intro ?_ ?_))), (by repeat (first | exact trivial | exact rfl | (refine And.intro ?_ ?_))), rfl, rfl, rfl, trivial⟩, ⟨rfl, rfl, rfl, rfl, rfl, rfl, trivial⟩, rfl, rfl⟩⟩
                    · refine bselF hb99 ?_
                      refine bselF hb99 ?_
                      refine bselF hb99 ?_
                      refine bselF hb99 ?_
                      refine bselF hb99 ?_
                      refine bselF hb99 ?_
                      refine bselF hb99 ?_
                      refine bselF hb99 ?_
                      refine bselF hb99 ?_
                      refine bselF hb99 ?_
                      refine bselF hb99 ?_
                      refine bselF hb99 ?_
                      refine bselF hb99 ?_
                      refine bselF hb99 ?_
                      refine bselF hb99 ?_
                      refine bselF hb99 ?_
                      refine qn934 _ _ ?_
                      obtain rfl := Option.some.inj h89
                      refine EOk.done ?_
                      exact ⟨⟨_, rfl⟩, [], trivial, ⟨⟨rfl, (by repeat (first | exact trivial | exact rfl | (refine And.intro ?_ ?_))), (by repeat (first | exact trivial | exact rfl | (refine And.intro ?_ ?_))), rfl, (by repeat (first | exact trivial | exact rfl | (refine And.intro ?_ ?_))), rfl, rfl, rfl, rfl, (by repeat (first | exact trivial | exact rfl | (refine And.intro ?_ ?_))), (by repeat (first | exact trivial | exact rfl | (refine And.intro ?_ ?_))), rfl, rfl, rfl, trivial⟩, ⟨rfl, rfl, rfl, rfl, rfl, rfl, trivial⟩, rfl, rfl⟩⟩
                  · refine bselF hb94 ?_
                    refine bselF hb94 ?_
                    refine bselF hb94 ?_
                    refine bselF hb94 ?_
                    refine bselF hb94 ?_
                    refine bselF hb94 ?_
                    refine bselF hb94 ?_
                    refine bselF hb94 ?_
                    refine bselF hb94 ?_
                    refine bselF hb94 ?_
                    refine bselF hb94 ?_
                    refine bselF hb94 ?_
                    refine bselF hb94 ?_
                    refine bselF hb94 ?_
                    refine bselF hb94 ?_
                    refine bselF hb94 ?_
                    refine bselF hb94 ?_
                    refine qn934 _ _ ?_
                    obtain rfl := Option.some.inj h89
                    refine EOk.done ?_
                    exact ⟨⟨_, rfl⟩, [], trivial, ⟨⟨rfl, (by repeat (first | exact trivial | exact rfl | (refine And.intro ?_ ?_))), (by repeat (first | exact trivial | exact rfl | (refine And.intro ?_ ?_))), rfl, (by repeat (first | exact trivial | exact rfl | (refine And.intro ?_ ?_))), rfl, rfl, rfl, rfl, (by repeat (first | exact trivial | exact rfl | (refine And.intro ?_ ?_))), (by repeat (first | exact trivial | exact rfl | (refine And.intro ?_ ?_))), rfl, rfl, rfl, trivial⟩, ⟨rfl, rfl, rfl, rfl, rfl, rfl, trivial⟩, rfl, rfl⟩⟩
                · refine bselF hb93 ?_
                  refine bselF hb93 ?_
                  refine bselF hb93 ?_
                  refine bselF hb93 ?_
                  refine bselF hb93 ?_
                  refine bselF hb93 ?_
                  refine bselF hb93 ?_
                  refine qn934 _ _ ?_
                  obtain rfl := Option.some.inj h89
                  refine EOk.done ?_
                  exact ⟨⟨_, rfl⟩, [], trivial, ⟨⟨rfl, (by repeat (first | exact trivial | exact rfl | (refine And.intro ?_ ?_))), (by repeat (first | exact trivial | exact rfl | (refine And.intro ?_ ?_))), rfl, (by repeat (first | exact trivial | exact rfl | (refine And.intro ?_ ?_))), rfl, rfl, rfl, rfl, (by repeat (first | exact trivial | exact rfl | (refine And.intro ?_ ?_))), (by repeat (first | exact trivial | exact rfl | (refine And.intro ?_ ?_))), rfl, rfl, rfl, trivial⟩, ⟨rfl, rfl, rfl, rfl, rfl, rfl, trivial⟩, rfl, rfl⟩⟩
              rintro ⟨v88, hv_⟩
              replace hv_ := hv_.symm
              subst hv_
              refine qn933 _ _ ?_
              refine goc hn ?_
              refine bselM h54 (fun hb100 h54 => ?_) (fun hb100 h54 => ?_)
              · refine COk.seqQ fun Q937 qn937 qx937 qr937 => ?_
                refine god hn (by kernel_rfl) ?_
                obtain ⟨x101, hx102, h54⟩ := bindM h54
                refine idxM hx102 ?_
                obtain ⟨r103, hr104, h54⟩ := bindM h54
                show CallOk Try.prog _ _ _ _
                refine CallOk.as ((((((((inline_writer_send_ok N (⟨w71.w, w71.m, w71.out, w71.temps, w71.at_, w71.fix⟩ : TWriter) x101 (k17 : Int) x44 x72 r103 hr104).sw 1000 57).sw 1001 604).sw 1002 605).sw 1003 606).sw 2 607).sw 3 608).sw 4 609) (by repeat (first | exact trivial | exact rfl | (refine And.intro ?_ ?_))) (by repeat (first | exact trivial | exact rfl | (refine And.intro ?_ ?_))) rfl ?_
                refine qn937 _ _ ?_
                refine COk.seqQ fun Q938 qn938 qx938 qr938 => ?_
                refine COk.sub (ts2 := [(1, .int a1), (3, .sl 1 (List.map eInt a3)), (4, .fp (eWd a0)), (8, .ptr 8 0), (10, .fp (eMe x14)), (11, .ptr 57 0), (61, .sl 5 (List.map eIns x14.code)), (62, .int (x14.code.length : Int)), (63, .int (k17 : Int))]) (os2 := [(8, .box [.int (0 : Int), .str ByteArray.empty, .int (0 : Int), .int (0 : Int), .nilsl] 53), (57, .box [.fp (eWd r103.w), .fp (eMe r103.m), .own 607, .int r103.temps, .own 608, .own 609] 107), (607, .row 5 (List.map eIns r103.out) 62), (608, .row 1 (List.map eInt r103.at_) 3), (609, .row 1 (List.map eInt r103.fix) 3)]) [] ⟨⟨rfl, (by repeat (first | exact trivial | exact rfl | (refine And.intro ?_ ?_))), (by repeat (first | exact trivial | exact rfl | (refine And.intro ?_ ?_))), rfl, (by repeat (first | exact trivial | exact rfl | (refine And.intro ?_ ?_))), rfl, (by repeat (first | exact trivial | exact rfl | (refine And.intro ?_ ?_))), rfl, rfl, trivial⟩, ⟨rfl, rfl, rfl, rfl, rfl, trivial⟩, rfl, rfl⟩ (by rw [hn]; rfl) ?_
                refine gor hn ?_
                refine qn938 _ _ ?_
                refine goe hn ?_
                refine qx913 _ _ _ ?_
                refine qe910 _ _ ?_
                refine qn909 _ _ ?_
                obtain rfl := Option.some.inj h54
                refine EOk.done ?_
                exact ⟨⟨_, rfl⟩, [(203, 607), (605, 608), (188, 609)], trivial, ⟨⟨rfl, (by repeat (first | exact trivial | exact rfl | (refine And.intro ?_ ?_))), (by repeat (first | exact trivial | exact rfl | (refine And.intro ?_ ?_))), rfl, (by repeat (first | exact trivial | exact rfl | (refine And.intro ?_ ?_))), rfl, rfl, (by repeat (first | exact trivial | exact rfl | (refine And.intro ?_ ?_))), rfl, rfl, trivial⟩, ⟨rfl, rfl, rfl, rfl, rfl, trivial⟩, rfl, rfl⟩⟩
              · refine gok hn ?_
                refine qn913 _ _ ?_
                refine COk.seqQ fun Q939 qn939 qx939 qr939 => ?_
                refine COk.seqQ fun Q940 qn940 qx940 qr940 => ?_
                obtain ⟨o107, h106, h54⟩ := bindM h54
                refine COk.joinR (ι := { s : Bool // o107 = s }) (fun s => [(1, .int a1), (3, .sl 1 (List.map eInt a3)), (4, .fp (eWd a0)), (8, .ptr 8 0), (10, .fp (eMe x14)), (11, .ptr 57 0), (12, .bool v24), (13, .int (k17 : Int)), (14, .ptr 14 0), (61, .sl 5 (List.map eIns x14.code)), (62, .int (x14.code.length : Int)), (63, .int (k17 : Int)), (176, .bool s.1)]) (fun s => [(8, .box [.int (0 : Int), .str ByteArray.empty, .int (0 : Int), .int (0 : Int), .nilsl] 53), (14, .box (eIns x44) 62), (57, .box [.fp (eWd w71.w), .fp (eMe w71.m), .own 604, .int w71.temps, .own 605, .own 606] 107), (604, .row 5 (List.map eIns w71.out) 62), (605, .row 1 (List.map eInt w71.at_) 3), (606, .row 1 (List.map eInt w71.fix) 3)]) (fun Q941 qn941 qx941 qr941 => ?_) (by intro s; rw [hn]; rfl) ?_
                · refine gor hn ?_
                  refine bselM h106 (fun hb108 h106 => ?_) (fun hb108 h106 => ?_)
                  · refine bselT hb108 ?_
                    refine bselT hb108 ?_
                    refine bselT hb108 ?_
                    refine qn941 _ _ ?_
                    obtain rfl := Option.some.inj h106
                    refine EOk.done ?_
                    exact ⟨⟨_, rfl⟩, [], trivial, ⟨⟨rfl, (by repeat (first | exact trivial | exact rfl | (refine And.intro ?_ ?_))), (by repeat (first | exact trivial | exact rfl | (refine And.intro ?_ ?_))), rfl, (by repeat (first | exact trivial | exact rfl | (refine And.intro ?_ ?_))), rfl, rfl, rfl, rfl, (by repeat (first | exact trivial | exact rfl | (refine And.intro ?_ ?_))), rfl, rfl, rfl, trivial⟩, ⟨rfl, rfl, rfl, rfl, rfl, rfl, trivial⟩, rfl, rfl⟩⟩
                  · refine bselF hb108 ?_
                    refine bselF hb108 ?_
                    refine bselF hb108 ?_
                    refine qn941 _ _ ?_
                    obtain rfl := Option.some.inj h106
                    refine EOk.done ?_
                    exact ⟨⟨_, rfl⟩, [], trivial, ⟨⟨rfl, (by repeat (first | exact trivial | exact rfl | (refine And.intro ?_ ?_))), (by repeat (first | exact trivial | exact rfl | (refine And.intro ?_ ?_))), rfl, (by repeat (first | exact trivial | exact rfl | (refine And.intro ?_ ?_))), rfl, rfl, rfl, rfl, (by repeat (first | exact trivial | exact rfl | (refine And.intro ?_ ?_))), rfl, rfl, rfl, trivial⟩, ⟨rfl, rfl, rfl, rfl, rfl, rfl, trivial⟩, rfl, rfl⟩⟩
                rintro ⟨v105, hv_⟩
                replace hv_ := hv_.symm
                subst hv_
                refine qn940 _ _ ?_
                obtain ⟨o111, h110, h54⟩ := bindM h54
                refine COk.joinR (ι := { s : (List Int) // o111 = s }) (fun s => [(1, .int a1), (3, .sl 1 (List.map eInt a3)), (4, .fp (eWd a0)), (8, .ptr 8 0), (10, .fp (eMe x14)), (11, .ptr 57 0), (12, .bool v24), (13, .int (k17 : Int)), (14, .ptr 14 0), (61, .sl 5 (List.map eIns x14.code)), (62, .int (x14.code.length : Int)), (63, .int (k17 : Int))]) (fun s => [(8, .box [.int (0 : Int), .str ByteArray.empty, .int (0 : Int), .int (0 : Int), .nilsl] 53), (14, .box (eIns x44) 62), (57, .box [.fp (eWd w71.w), .fp (eMe w71.m), .own 604, .int w71.temps, .own 605, .own 188] 107), (188, .row 1 (List.map eInt s.1) 3), (604, .row 5 (List.map eIns w71.out) 62), (605, .row 1 (List.map eInt w71.at_) 3)]) (fun Q942 qn942 qx942 qr942 => ?_) (by intro s; rw [hn]; rfl) ?_
                · refine goc hn ?_
                  refine bselM h110 (fun hb112 h110 => ?_) (fun hb112 h110 => ?_)
                  · refine god hn (by kernel_rfl) ?_
                    refine lenM (fun hl113 => ?_)
                    refine Exists.intro (List.map eInt [(w71.out.length : Int)]) (And.intro (by repeat (first | exact trivial | exact rfl | (refine And.intro ?_ ?_))) ?_)
                    obtain ⟨hg114, h110⟩ := guardM h110
                    refine appM (l2 := [(w71.out.length : Int)]) hg114 (leLs_refl _) ?_
                    refine qn942 _ _ ?_
                    obtain rfl := Option.some.inj h110
                    refine EOk.done ?_
                    exact ⟨⟨_, rfl⟩, [], trivial, ⟨⟨rfl, (by repeat (first | exact trivial | exact rfl | (refine And.intro ?_ ?_))), (by repeat (first | exact trivial | exact rfl | (refine And.intro ?_ ?_))), rfl, (by repeat (first | exact trivial | exact rfl | (refine And.intro ?_ ?_))), rfl, rfl, rfl, rfl, (by repeat (first | exact trivial | exact rfl | (refine And.intro ?_ ?_))), rfl, rfl, trivial⟩, ⟨rfl, rfl, rfl, rfl, rfl, rfl, trivial⟩, rfl, rfl⟩⟩
                  · refine gok hn ?_
                    refine qn942 _ _ ?_
                    obtain rfl := Option.some.inj h110
                    refine EOk.done ?_
                    exact ⟨⟨_, rfl⟩, [(188, 606)], trivial, ⟨⟨rfl, (by repeat (first | exact trivial | exact rfl | (refine And.intro ?_ ?_))), (by repeat (first | exact trivial | exact rfl | (refine And.intro ?_ ?_))), rfl, (by repeat (first | exact trivial | exact rfl | (refine And.intro ?_ ?_))), rfl, rfl, rfl, rfl, (by repeat (first | exact trivial | exact rfl | (refine And.intro ?_ ?_))), rfl, rfl, trivial⟩, ⟨rfl, rfl, rfl, rfl, rfl, rfl, trivial⟩, rfl, rfl⟩⟩
                rintro ⟨v109, hv_⟩
                replace hv_ := hv_.symm
                subst hv_
                refine qn939 _ _ ?_
                refine COk.seqQ fun Q943 qn943 qx943 qr943 => ?_
                refine COk.seqQ fun Q944 qn944 qx944 qr944 => ?_
                refine gor hn ?_
                refine qn944 _ _ ?_
                obtain ⟨o117, h116, h54⟩ := bindM h54
                refine COk.joinR (ι := { s : Ins // o117 = s }) (fun s => [(1, .int a1), (3, .sl 1 (List.map eInt a3)), (4, .fp (eWd a0)), (8, .ptr 8 0), (10, .fp (eMe x14)), (11, .ptr 57 0), (12, .bool v24), (14, .ptr 14 0), (61, .sl 5 (List.map eIns x14.code)), (62, .int (x14.code.length : Int)), (63, .int (k17 : Int))]) (fun s => [(8, .box [.int (0 : Int), .str ByteArray.empty, .int (0 : Int), .int (0 : Int), .nilsl] 53), (14, .box (eIns s.1) 62), (57, .box [.fp (eWd w71.w), .fp (eMe w71.m), .own 604, .int w71.temps, .own 605, .own 188] 107), (188, .row 1 (List.map eInt v109) 3), (604, .row 5 (List.map eIns w71.out) 62), (605, .row 1 (List.map eInt w71.at_) 3)]) (fun Q945 qn945 qx945 qr945 => ?_) (by intro s; rw [hn]; rfl) ?_
                · refine goc hn ?_
                  refine bselM h116 (fun hb118 h116 => ?_) (fun hb118 h116 => ?_)
                  · refine gor hn ?_
                    refine qn945 _ _ ?_
                    obtain rfl := Option.some.inj h116
                    refine EOk.done ?_
                    exact ⟨⟨_, rfl⟩, [], trivial, ⟨⟨rfl, (by repeat (first | exact trivial | exact rfl | (refine And.intro ?_ ?_))), (by repeat (first | exact trivial | exact rfl | (refine And.intro ?_ ?_))), rfl, (by repeat (first | exact trivial | exact rfl | (refine And.intro ?_ ?_))), rfl, rfl, rfl, (by repeat (first | exact trivial | exact rfl | (refine And.intro ?_ ?_))), rfl, rfl, trivial⟩, ⟨rfl, rfl, rfl, rfl, rfl, rfl, trivial⟩, rfl, rfl⟩⟩
                  · refine gok hn ?_
                    refine qn945 _ _ ?_
                    obtain rfl := Option.some.inj h116
                    refine EOk.done ?_
                    exact ⟨⟨_, rfl⟩, [], trivial, ⟨⟨rfl, (by repeat (first | exact trivial | exact rfl | (refine And.intro ?_ ?_))), (by repeat (first | exact trivial | exact rfl | (refine And.intro ?_ ?_))), rfl, (by repeat (first | exact trivial | exact rfl | (refine And.intro ?_ ?_))), rfl, rfl, rfl, (by repeat (first | exact trivial | exact rfl | (refine And.intro ?_ ?_))), rfl, rfl, trivial⟩, ⟨rfl, rfl, rfl, rfl, rfl, rfl, trivial⟩, rfl, rfl⟩⟩
                rintro ⟨v115, hv_⟩
                replace hv_ := hv_.symm
                subst hv_
                refine qn943 _ _ ?_
                refine god hn (by kernel_rfl) ?_
                refine Exists.intro (List.map eIns [v115]) (And.intro (by repeat (first | exact trivial | exact rfl | (refine And.intro ?_ ?_))) ?_)
                obtain ⟨hg119, h54⟩ := guardM h54
                refine appM (l2 := [v115]) hg119 (leLs_refl _) ?_
                refine qn910 _ _ ?_
                refine qn909 _ _ ?_
                obtain rfl := Option.some.inj h54
                refine EOk.done ?_
                exact ⟨⟨_, rfl⟩, [], trivial, ⟨⟨rfl, (by repeat (first | exact trivial | exact rfl | (refine And.intro ?_ ?_))), (by repeat (first | exact trivial | exact rfl | (refine And.intro ?_ ?_))), rfl, (by repeat (first | exact trivial | exact rfl | (refine And.intro ?_ ?_))), rfl, rfl, (by repeat (first | exact trivial | exact rfl | (refine And.intro ?_ ?_))), rfl, rfl, trivial⟩, ⟨rfl, rfl, rfl, rfl, rfl, trivial⟩, rfl, rfl⟩⟩
          · refine gok hn ?_
            refine qn913 _ _ ?_
            refine COk.seqQ fun Q946 qn946 qx946 qr946 => ?_
            refine COk.seqQ fun Q947 qn947 qx947 qr947 => ?_
            obtain ⟨o122, h121, h54⟩ := bindM h54
            refine COk.joinR (ι := { s : Bool // o122 = s }) (fun s => [(1, .int a1), (3, .sl 1 (List.map eInt a3)), (4, .fp (eWd a0)), (8, .ptr 8 0), (10, .fp (eMe x14)), (11, .ptr 57 0), (12, .bool v24), (13, .int (k17 : Int)), (14, .ptr 14 0), (61, .sl 5 (List.map eIns x14.code)), (62, .int (x14.code.length : Int)), (63, .int (k17 : Int)), (176, .bool s.1)]) (fun s => [(8, .box [.int (0 : Int), .str ByteArray.empty, .int (0 : Int), .int (0 : Int), .nilsl] 53), (14, .box (eIns x44) 62), (57, .box [.fp (eWd v18), .fp (eMe v19), .own 601, .int v21, .own 79, .own 603] 107), (79, .row 1 (List.map eInt (v22 ++ [(v20.length : Int)])) 3), (601, .row 5 (List.map eIns v20) 62), (603, .row 1 (List.map eInt v23) 3)]) (fun Q948 qn948 qx948 qr948 => ?_) (by intro s; rw [hn]; rfl) ?_
            · refine gor hn ?_
              refine bselM h121 (fun hb123 h121 => ?_) (fun hb123 h121 => ?_)
              · refine bselT hb123 ?_
                refine bselT hb123 ?_
                refine bselT hb123 ?_
                refine qn948 _ _ ?_
                obtain rfl := Option.some.inj h121
                refine EOk.done ?_
                exact ⟨⟨_, rfl⟩, [], trivial, ⟨⟨rfl, (by repeat (first | exact trivial | exact rfl | (refine And.intro ?_ ?_))), (by repeat (first | exact trivial | exact rfl | (refine And.intro ?_ ?_))), rfl, (by repeat (first | exact trivial | exact rfl | (refine And.intro ?_ ?_))), rfl, rfl, rfl, rfl, (by repeat (first | exact trivial | exact rfl | (refine And.intro ?_ ?_))), rfl, rfl, rfl, trivial⟩, ⟨rfl, rfl, rfl, rfl, rfl, rfl, trivial⟩, rfl, rfl⟩⟩
              · refine bselF hb123 ?_
                refine bselF hb123 ?_
                refine bselF hb123 ?_
                refine qn948 _ _ ?_
                obtain rfl := Option.some.inj h121
                refine EOk.done ?_
                exact ⟨⟨_, rfl⟩, [], trivial, ⟨⟨rfl, (by repeat (first | exact trivial | exact rfl | (refine And.intro ?_ ?_))), (by repeat (first | exact trivial | exact rfl | (refine And.intro ?_ ?_))), rfl, (by repeat (first | exact trivial | exact rfl | (refine And.intro ?_ ?_))), rfl, rfl, rfl, rfl, (by repeat (first | exact trivial | exact rfl | (refine And.intro ?_ ?_))), rfl, rfl, rfl, trivial⟩, ⟨rfl, rfl, rfl, rfl, rfl, rfl, trivial⟩, rfl, rfl⟩⟩
            rintro ⟨v120, hv_⟩
            replace hv_ := hv_.symm
            subst hv_
            refine qn947 _ _ ?_
            obtain ⟨o126, h125, h54⟩ := bindM h54
            refine COk.joinR (ι := { s : (List Int) // o126 = s }) (fun s => [(1, .int a1), (3, .sl 1 (List.map eInt a3)), (4, .fp (eWd a0)), (8, .ptr 8 0), (10, .fp (eMe x14)), (11, .ptr 57 0), (12, .bool v24), (13, .int (k17 : Int)), (14, .ptr 14 0), (61, .sl 5 (List.map eIns x14.code)), (62, .int (x14.code.length : Int)), (63, .int (k17 : Int))]) (fun s => [(8, .box [.int (0 : Int), .str ByteArray.empty, .int (0 : Int), .int (0 : Int), .nilsl] 53), (14, .box (eIns x44) 62), (57, .box [.fp (eWd v18), .fp (eMe v19), .own 601, .int v21, .own 79, .own 188] 107), (79, .row 1 (List.map eInt (v22 ++ [(v20.length : Int)])) 3), (188, .row 1 (List.map eInt s.1) 3), (601, .row 5 (List.map eIns v20) 62)]) (fun Q949 qn949 qx949 qr949 => ?_) (by intro s; rw [hn]; rfl) ?_
            · refine goc hn ?_
              refine bselM h125 (fun hb127 h125 => ?_) (fun hb127 h125 => ?_)
              · refine god hn (by kernel_rfl) ?_
                refine lenM (fun hl128 => ?_)
                refine Exists.intro (List.map eInt [(v20.length : Int)]) (And.intro (by repeat (first | exact trivial | exact rfl | (refine And.intro ?_ ?_))) ?_)
                obtain ⟨hg129, h125⟩ := guardM h125
                refine appM (l2 := [(v20.length : Int)]) hg129 (leLs_refl _) ?_
                refine qn949 _ _ ?_
                obtain rfl := Option.some.inj h125
                refine EOk.done ?_
                exact ⟨⟨_, rfl⟩, [], trivial, ⟨⟨rfl, (by repeat (first | exact trivial | exact rfl | (refine And.intro ?_ ?_))), (by repeat (first | exact trivial | exact rfl | (refine And.intro ?_ ?_))), rfl, (by repeat (first | exact trivial | exact rfl | (refine And.intro ?_ ?_))), rfl, rfl, rfl, rfl, (by repeat (first | exact trivial | exact rfl | (refine And.intro ?_ ?_))), rfl, rfl, trivial⟩, ⟨rfl, rfl, rfl, rfl, rfl, rfl, trivial⟩, rfl, rfl⟩⟩
              · refine gok hn ?_
                refine qn949 _ _ ?_
                obtain rfl := Option.some.inj h125
                refine EOk.done ?_
                exact ⟨⟨_, rfl⟩, [(188, 603)], trivial, ⟨⟨rfl, (by repeat (first | exact trivial | exact rfl | (refine And.intro ?_ ?_))), (by repeat (first | exact trivial | exact rfl | (refine And.intro ?_ ?_))), rfl, (by repeat (first | exact trivial | exact rfl | (refine And.intro ?_ ?_))), rfl, rfl, rfl, rfl, (by repeat (first | exact trivial | exact rfl | (refine And.intro ?_ ?_))), rfl, rfl, trivial⟩, ⟨rfl, rfl, rfl, rfl, rfl, rfl, trivial⟩, rfl, rfl⟩⟩
            rintro ⟨v124, hv_⟩
            replace hv_ := hv_.symm
            subst hv_
            refine qn946 _ _ ?_
            refine COk.seqQ fun Q950 qn950 qx950 qr950 => ?_
            refine COk.seqQ fun Q951 qn951 qx951 qr951 => ?_
            refine gor hn ?_
            refine qn951 _ _ ?_
            obtain ⟨o132, h131, h54⟩ := bindM h54
            refine COk.joinR (ι := { s : Ins // o132 = s }) (fun s => [(1, .int a1), (3, .sl 1 (List.map eInt a3)), (4, .fp (eWd a0)), (8, .ptr 8 0), (10, .fp (eMe x14)), (11, .ptr 57 0), (12, .bool v24), (14, .ptr 14 0), (61, .sl 5 (List.map eIns x14.code)), (62, .int (x14.code.length : Int)), (63, .int (k17 : Int))]) (fun s => [(8, .box [.int (0 : Int), .str ByteArray.empty, .int (0 : Int), .int (0 : Int), .nilsl] 53), (14, .box (eIns s.1) 62), (57, .box [.fp (eWd v18), .fp (eMe v19), .own 601, .int v21, .own 79, .own 188] 107), (79, .row 1 (List.map eInt (v22 ++ [(v20.length : Int)])) 3), (188, .row 1 (List.map eInt v124) 3), (601, .row 5 (List.map eIns v20) 62)]) (fun Q952 qn952 qx952 qr952 => ?_) (by intro s; rw [hn]; rfl) ?_
            · refine goc hn ?_
              refine bselM h131 (fun hb133 h131 => ?_) (fun hb133 h131 => ?_)
              · refine gor hn ?_
                refine qn952 _ _ ?_
                obtain rfl := Option.some.inj h131
                refine EOk.done ?_
                exact ⟨⟨_, rfl⟩, [], trivial, ⟨⟨rfl, (by repeat (first | exact trivial | exact rfl | (refine And.intro ?_ ?_))), (by repeat (first | exact trivial | exact rfl | (refine And.intro ?_ ?_))), rfl, (by repeat (first | exact trivial | exact rfl | (refine And.intro ?_ ?_))), rfl, rfl, rfl, (by repeat (first | exact trivial | exact rfl | (refine And.intro ?_ ?_))), rfl, rfl, trivial⟩, ⟨rfl, rfl, rfl, rfl, rfl, rfl, trivial⟩, rfl, rfl⟩⟩
              · refine gok hn ?_
                refine qn952 _ _ ?_
                obtain rfl := Option.some.inj h131
                refine EOk.done ?_
                exact ⟨⟨_, rfl⟩, [], trivial, ⟨⟨rfl, (by repeat (first | exact trivial | exact rfl | (refine And.intro ?_ ?_))), (by repeat (first | exact trivial | exact rfl | (refine And.intro ?_ ?_))), rfl, (by repeat (first | exact trivial | exact rfl | (refine And.intro ?_ ?_))), rfl, rfl, rfl, (by repeat (first | exact trivial | exact rfl | (refine And.intro ?_ ?_))), rfl, rfl, trivial⟩, ⟨rfl, rfl, rfl, rfl, rfl, rfl, trivial⟩, rfl, rfl⟩⟩
            rintro ⟨v130, hv_⟩
            replace hv_ := hv_.symm
            subst hv_
            refine qn950 _ _ ?_
            refine god hn (by kernel_rfl) ?_
            refine Exists.intro (List.map eIns [v130]) (And.intro (by repeat (first | exact trivial | exact rfl | (refine And.intro ?_ ?_))) ?_)
            obtain ⟨hg134, h54⟩ := guardM h54
            refine appM (l2 := [v130]) hg134 (leLs_refl _) ?_
            refine qn910 _ _ ?_
            refine qn909 _ _ ?_
            obtain rfl := Option.some.inj h54
            refine EOk.done ?_
            exact ⟨⟨_, rfl⟩, [(605, 79)], trivial, ⟨⟨rfl, (by repeat (first | exact trivial | exact rfl | (refine And.intro ?_ ?_))), (by repeat (first | exact trivial | exact rfl | (refine And.intro ?_ ?_))), rfl, (by repeat (first | exact trivial | exact rfl | (refine And.intro ?_ ?_))), rfl, rfl, (by repeat (first | exact trivial | exact rfl | (refine And.intro ?_ ?_))), rfl, rfl, trivial⟩, ⟨rfl, rfl, rfl, rfl, rfl, trivial⟩, rfl, rfl⟩⟩
        rintro ⟨⟨v47, v48, v49, v50, v51, v52, v53⟩, rfl⟩
        refine qn865 _ _ ?_
        refine gor hn ?_
        refine Or.inl (And.intro (inrK hx45 hl16) ?_)
        refine qn860 _ _ ?_
        refine EOk.done ?_
        exact ⟨⟨(rest41, k17 + 1, v47, v48, v49, v50, v51, v52, v53), hd2, h40⟩, [(601, 203), (602, 605), (603, 188)], by show rest41.length < rest41.length + 1; omega, ⟨⟨rfl, (by repeat (first | exact trivial | exact rfl | (refine And.intro ?_ ?_))), (by repeat (first | exact trivial | exact rfl | (refine And.intro ?_ ?_))), rfl, (by repeat (first | exact trivial | exact rfl | (refine And.intro ?_ ?_))), rfl, rfl, (by repeat (first | exact trivial | exact rfl | (refine And.intro ?_ ?_))), rfl, rfl, trivial⟩, ⟨rfl, rfl, rfl, rfl, rfl, trivial⟩, rfl, rfl⟩⟩
    rintro ⟨⟨v32, v33, v34, v35, v36, v37, v38⟩, rfl⟩
    refine qn506 _ _ ?_
    refine COk.seqQ fun Q953 qn953 qx953 qr953 => ?_
    refine COk.seqQ fun Q954 qn954 qx954 qr954 => ?_
    refine gor hn ?_
    refine qn954 _ _ ?_
    refine goc hn ?_
    refine bselM h (fun hb135 h => ?_) (fun hb135 h => ?_)
    · refine COk.seqQ fun Q956 qn956 qx956 qr956 => ?_
      refine gor hn ?_
      refine qn956 _ _ ?_
      refine got hn ?_
      refine qr953 _ _ ?_
      obtain rfl := Option.some.inj h
      exact ⟨[], _, rfl, (by repeat (first | exact trivial | exact rfl | (refine And.intro ?_ ?_))), trivial, rfl, rfl, rfl, rfl, rfl⟩
    · refine gok hn ?_
      refine qn953 _ _ ?_
      refine COk.seqQ fun Q957 qn957 qx957 qr957 => ?_
      refine COk.seqQ fun Q958 qn958 qx958 qr958 => ?_
      refine gor hn ?_
      refine lenM (fun hl136 => ?_)
      refine qn958 _ _ ?_
      obtain ⟨o141, h142, h⟩ := bindM h
      refine COk.joinR (ι := { s : (List Ins) // o141 = s }) (fun s => [(1, .int a1), (4, .fp (eWd a0)), (8, .ptr 8 0), (10, .fp (eMe x14)), (11, .ptr 57 0)]) (fun s => [(8, .box [.int (0 : Int), .str ByteArray.empty, .int (0 : Int), .int (0 : Int), .nilsl] 53), (57, .box [.fp (eWd v32), .fp (eMe v33), .own 601, .int v35, .own 602, .own 603] 107), (601, .row 5 (List.map eIns s.1) 62), (602, .row 1 (List.map eInt v36) 3), (603, .row 1 (List.map eInt v37) 3)]) (fun Q980 qn980 qx980 qr980 => ?_) (by intro s; rw [hn]; rfl) ?_
      · refine COk.blkQ fun Q981 qn981 qe981 qx981 qr981 => ?_
        refine COk.loopQ (ι := { q : ((List Int) × Nat × (List Ins)) // q.1 = v37.drop q.2.1 ∧ inline_Method_l2 N v36 v37 q.1 q.2.1 q.2.2 = some o141 }) (fun q => [(1, .int a1), (4, .fp (eWd a0)), (8, .ptr 8 0), (10, .fp (eMe x14)), (11, .ptr 57 0), (213, .own 603), (214, .int (v37.length : Int)), (215, .int (q.1.2.1 : Int))]) (fun q => [(8, .box [.int (0 : Int), .str ByteArray.empty, .int (0 : Int), .int (0 : Int), .nilsl] 53), (57, .box [.fp (eWd v32), .fp (eMe v33), .own 601, .int v35, .own 602, .own 603] 107), (601, .row 5 (List.map eIns q.1.2.2) 62), (602, .row 1 (List.map eInt v36) 3), (603, .row 1 (List.map eInt v37) 3)]) (fun q => q.1.1.length) ⟨(v37, 0, v34), rfl, h142⟩ [] ⟨⟨rfl, (by repeat (first | exact trivial | exact rfl | (refine And.intro ?_ ?_))), rfl, (by repeat (first | exact trivial | exact rfl | (refine And.intro ?_ ?_))), rfl, rfl, rfl, rfl, trivial⟩, ⟨rfl, rfl, rfl, rfl, rfl, trivial⟩, rfl, rfl⟩ (by intro q; rw [hn]; rfl) ?_
        rintro ⟨⟨rest_, k137, v138⟩, hd144, h142⟩ Q982 qn982 qx982 qr982
        replace hd144 : rest_ = v37.drop k137 := hd144
        rcases rest_ with _ | ⟨x146, rest143⟩
        · have hlt148 := restNil hd144
          replace h142 := (inline_Method_l2.eq_1 _ _ _ _ _).symm.trans h142
          refine COk.seqQ fun Q983 qn983 qx983 qr983 => ?_
          refine gor hn ?_
          refine qn983 _ _ ?_
          refine COk.seqQ fun Q984 qn984 qx984 qr984 => ?_
          refine goc hn ?_
          refine bselF hlt148 ?_
          refine goe hn ?_
          refine qx984 _ _ _ ?_
          refine qx982 _ _ _ ?_
          refine qe981 _ _ ?_
          refine qn980 _ _ ?_
          obtain rfl := Option.some.inj h142
          refine EOk.done ?_
          exact ⟨⟨_, rfl⟩, [], trivial, ⟨⟨rfl, (by repeat (first | exact trivial | exact rfl | (refine And.intro ?_ ?_))), rfl, (by repeat (first | exact trivial | exact rfl | (refine And.intro ?_ ?_))), rfl, trivial⟩, ⟨rfl, rfl, rfl, rfl, rfl, trivial⟩, rfl, rfl⟩⟩
        · obtain ⟨hx147, hd2, hlt148⟩ := restCons hd144
          replace h142 := (inline_Method_l2.eq_2 _ _ _ _ _ _ _).symm.trans h142
          refine COk.seqQ fun Q985 qn985 qx985 qr985 => ?_
          refine gor hn ?_
          refine qn985 _ _ ?_
          refine COk.seqQ fun Q986 qn986 qx986 qr986 => ?_
          refine goc hn ?_
          refine bselT hlt148 ?_
          refine gok hn ?_
          refine qn986 _ _ ?_
          refine COk.seqQ fun Q987 qn987 qx987 qr987 => ?_
          refine COk.blkQ fun Q990 qn990 qe990 qx990 qr990 => ?_
          refine COk.seqQ fun Q991 qn991 qx991 qr991 => ?_
          refine gor hn ?_
          obtain ⟨x149, hx150, h142⟩ := bindM h142
          refine ownM hx150 ?_
          refine ldM (nthO_some hx150).2 ?_
          refine qn991 _ _ ?_
          refine COk.sub (ts2 := [(1, .int a1), (4, .fp (eWd a0)), (8, .ptr 8 0), (10, .fp (eMe x14)), (11, .ptr 57 0), (17, .int x149), (213, .own 603), (214, .int (v37.length : Int)), (215, .int (k137 : Int))]) (os2 := [(8, .box [.int (0 : Int), .str ByteArray.empty, .int (0 : Int), .int (0 : Int), .nilsl] 53), (57, .box [.fp (eWd v32), .fp (eMe v33), .own 601, .int v35, .own 602, .own 603] 107), (601, .row 5 (List.map eIns v138) 62), (602, .row 1 (List.map eInt v36) 3), (603, .row 1 (List.map eInt v37) 3)]) [] ⟨⟨rfl, (by repeat (first | exact trivial | exact rfl | (refine And.intro ?_ ?_))), rfl, (by repeat (first | exact trivial | exact rfl | (refine And.intro ?_ ?_))), rfl, rfl, rfl, rfl, rfl, trivial⟩, ⟨rfl, rfl, rfl, rfl, rfl, trivial⟩, rfl, rfl⟩ (by rw [hn]; rfl) ?_
          refine god hn (by kernel_rfl) ?_
          obtain ⟨x151, hx152, h142⟩ := bindM h142
          refine ownM hx152 ?_
          refine ldM (nthO_some hx152).2 ?_
          obtain ⟨x153, hx154, h142⟩ := bindM h142
          refine ownM hx154 ?_
          refine ldM (nthO_some hx154).2 ?_
          obtain ⟨x155, hx156, h142⟩ := bindM h142
          refine ownM hx156 ?_
          refine ldM (nthO_some hx156).2 ?_
          refine Exists.intro (List.map eIns (v138.set x149.toNat (⟨x155.op, x153, x155.b, x155.c, x155.name⟩ : Ins))) (And.intro (leLs_set (nthO_some hx156).2 (by repeat (first | exact trivial | exact rfl | (refine And.intro ?_ ?_)))) ?_)
          refine qn990 _ _ ?_
          refine qn987 _ _ ?_
          refine COk.sub (ts2 := [(1, .int a1), (4, .fp (eWd a0)), (8, .ptr 8 0), (10, .fp (eMe x14)), (11, .ptr 57 0), (213, .own 603), (214, .int (v37.length : Int)), (215, .int (k137 : Int))]) (os2 := [(8, .box [.int (0 : Int), .str ByteArray.empty, .int (0 : Int), .int (0 : Int), .nilsl] 53), (57, .box [.fp (eWd v32), .fp (eMe v33), .own 601, .int v35, .own 602, .own 603] 107), (601, .row 5 (List.map eIns (v138.set x149.toNat (⟨x155.op, x153, x155.b, x155.c, x155.name⟩ : Ins))) 62), (602, .row 1 (List.map eInt v36) 3), (603, .row 1 (List.map eInt v37) 3)]) [] ⟨⟨rfl, (by repeat (first | exact trivial | exact rfl | (refine And.intro ?_ ?_))), rfl, (by repeat (first | exact trivial | exact rfl | (refine And.intro ?_ ?_))), rfl, rfl, rfl, rfl, trivial⟩, ⟨rfl, rfl, rfl, rfl, rfl, trivial⟩, rfl, rfl⟩ (by rw [hn]; rfl) ?_
          refine gor hn ?_
          refine Or.inl (And.intro (inrK hx147 hl136) ?_)
          refine qn982 _ _ ?_
          refine EOk.done ?_
          exact ⟨⟨(rest143, k137 + 1, (v138.set x149.toNat (⟨x155.op, x153, x155.b, x155.c, x155.name⟩ : Ins))), hd2, h142⟩, [], by show rest143.length < rest143.length + 1; omega, ⟨⟨rfl, (by repeat (first | exact trivial | exact rfl | (refine And.intro ?_ ?_))), rfl, (by repeat (first | exact trivial | exact rfl | (refine And.intro ?_ ?_))), rfl, rfl, rfl, rfl, trivial⟩, ⟨rfl, rfl, rfl, rfl, rfl, trivial⟩, rfl, rfl⟩⟩
      rintro ⟨v140, hv_⟩
      replace hv_ := hv_.symm
      subst hv_
      refine qn957 _ _ ?_
      refine COk.seqQ fun Q992 qn992 qx992 qr992 => ?_
      refine COk.sub (ts2 := [(1, .int a1), (4, .fp (eWd a0)), (8, .ptr 8 0), (10, .fp (eMe x14)), (11, .ptr 57 0)]) (os2 := [(8, .box [.int (0 : Int), .str ByteArray.empty, .int (0 : Int), .int (0 : Int), .nilsl] 53), (57, .box [.fp (eWd v32), .fp (eMe v33), .own 601, .int v35, .own 602, .own 603] 107), (601, .row 5 (List.map eIns v140) 62), (602, .row 1 (List.map eInt v36) 3), (603, .row 1 (List.map eInt v37) 3)]) [] ⟨⟨rfl, (by repeat (first | exact trivial | exact rfl | (refine And.intro ?_ ?_))), rfl, (by repeat (first | exact trivial | exact rfl | (refine And.intro ?_ ?_))), rfl, trivial⟩, ⟨rfl, rfl, rfl, rfl, rfl, trivial⟩, rfl, rfl⟩ (by rw [hn]; rfl) ?_
      refine god hn (by kernel_rfl) ?_
      refine qn992 _ _ ?_
      refine COk.fzAll 601 rfl ?_
      refine got hn ?_
      obtain rfl := Option.some.inj h
      exact ⟨[], _, rfl, (by repeat (first | exact trivial | exact rfl | (refine And.intro ?_ ?_))), trivial, rfl, rfl, rfl, rfl, rfl⟩

/- qcref5.Leaf -/
set_option maxRecDepth 100000 in
set_option maxHeartbeats 1000000 in
theorem qcref5_Leaf_ok (N : Nat) (a0 : Me) (r : Bool) (h : qcref5_Leaf N a0 = some r) : Spec Try.prog 60 [] [.agg (eMe a0)] (.bool r) [] [] := by
  refine Spec.of tabOk Try.func60 rfl Try.ntmps60 (by kernel_rfl) rfl rfl rfl fun Γ hn => ?_
  unfold qcref5_Leaf at h
  refine COk.seqQ fun Q46 qn46 qx46 qr46 => ?_
  refine gor hn ?_
  refine qn46 _ _ ?_
  refine COk.seqQ fun Q47 qn47 qx47 qr47 => ?_
  refine COk.seqQ fun Q48 qn48 qx48 qr48 => ?_
  refine gor hn ?_
  refine lenM (fun hl1 => ?_)
  refine qn48 _ _ ?_
  obtain ⟨o3, h4, h⟩ := bindM h
  refine COk.joinR (ι := { s : Unit // o3 = Ctl.next s }) (fun s => [(1, .ptr 1 0)]) (fun s => [(1, .box (eMe a0) 64)]) (fun Q71 qn71 qx71 qr71 => ?_) (by intro s; rw [hn]; rfl) ?_
  · refine COk.blkQ fun Q72 qn72 qe72 qx72 qr72 => ?_
    refine COk.loopQ (ι := { q : ((List Ins) × Nat) // q.1 = a0.code.drop q.2 ∧ qcref5_Leaf_l1 N q.1 q.2 = some o3 }) (fun q => [(1, .ptr 1 0), (6, .sl 5 (List.map eIns a0.code)), (7, .int (a0.code.length : Int)), (8, .int (q.1.2 : Int))]) (fun q => [(1, .box (eMe a0) 64)]) (fun q => q.1.1.length) ⟨(a0.code, 0), rfl, h4⟩ [] ⟨⟨rfl, (by repeat (first | exact trivial | exact rfl | (refine And.intro ?_ ?_))), rfl, rfl, trivial⟩, ⟨rfl, trivial⟩, rfl, rfl⟩ (by intro q; rw [hn]; rfl) ?_
    rintro ⟨⟨rest_, k2⟩, hd6, h4⟩ Q73 qn73 qx73 qr73
    replace hd6 : rest_ = a0.code.drop k2 := hd6
    rcases rest_ with _ | ⟨x8, rest5⟩
    · have hlt10 := restNil hd6
      replace h4 := (qcref5_Leaf_l1.eq_1 _ _).symm.trans h4
      refine COk.seqQ fun Q74 qn74 qx74 qr74 => ?_
      refine gor hn ?_
      refine qn74 _ _ ?_
      refine COk.seqQ fun Q75 qn75 qx75 qr75 => ?_
      refine goc hn ?_
      refine bselF hlt10 ?_
      refine goe hn ?_
      refine qx75 _ _ _ ?_
      refine qx73 _ _ _ ?_
      refine qe72 _ _ ?_
      refine qn71 _ _ ?_
      obtain rfl := Option.some.inj h4
      refine EOk.done ?_
      exact ⟨⟨_, rfl⟩, [], trivial, ⟨⟨rfl, trivial⟩, ⟨rfl, trivial⟩, rfl, rfl⟩⟩
    · obtain ⟨hx9, hd2, hlt10⟩ := restCons hd6
      replace h4 := (qcref5_Leaf_l1.eq_2 _ _ _ _).symm.trans h4
      refine COk.seqQ fun Q76 qn76 qx76 qr76 => ?_
      refine gor hn ?_
      refine qn76 _ _ ?_
      refine COk.seqQ fun Q77 qn77 qx77 qr77 => ?_
      refine goc hn ?_
      refine bselT hlt10 ?_
      refine gok hn ?_
      refine qn77 _ _ ?_
      refine COk.seqQ fun Q78 qn78 qx78 qr78 => ?_
      refine COk.blkQ fun Q85 qn85 qe85 qx85 qr85 => ?_
      refine COk.seqQ fun Q86 qn86 qx86 qr86 => ?_
      refine gor hn ?_
      refine idxK hx9 ?_
      refine qn86 _ _ ?_
      refine COk.seqQ fun Q87 qn87 qx87 qr87 => ?_
      obtain ⟨o13, h12, h4⟩ := bindM h4
      refine COk.joinR (ι := { s : Bool // o13 = s }) (fun s => [(1, .ptr 1 0), (6, .sl 5 (List.map eIns a0.code)), (7, .int (a0.code.length : Int)), (8, .int (k2 : Int)), (19, .bool s.1)]) (fun s => [(1, .box (eMe a0) 64)]) (fun Q88 qn88 qx88 qr88 => ?_) (by intro s; rw [hn]; rfl) ?_
      · refine gor hn ?_
        refine bselM h12 (fun hb14 h12 => ?_) (fun hb14 h12 => ?_)
        · refine bselT hb14 ?_
          refine bselT hb14 ?_
          refine bselT hb14 ?_
          refine qn88 _ _ ?_
          obtain rfl := Option.some.inj h12
          refine EOk.done ?_
          exact ⟨⟨_, rfl⟩, [], trivial, ⟨⟨rfl, (by repeat (first | exact trivial | exact rfl | (refine And.intro ?_ ?_))), rfl, rfl, rfl, trivial⟩, ⟨rfl, trivial⟩, rfl, rfl⟩⟩
        · refine bselF hb14 ?_
          refine bselF hb14 ?_
          refine bselF hb14 ?_
          refine qn88 _ _ ?_
          obtain rfl := Option.some.inj h12
          refine EOk.done ?_
          exact ⟨⟨_, rfl⟩, [], trivial, ⟨⟨rfl, (by repeat (first | exact trivial | exact rfl | (refine And.intro ?_ ?_))), rfl, rfl, rfl, trivial⟩, ⟨rfl, trivial⟩, rfl, rfl⟩⟩
      rintro ⟨v11, hv_⟩
      replace hv_ := hv_.symm
      subst hv_
      refine qn87 _ _ ?_
      refine goc hn ?_
      refine bselM h4 (fun hb15 h4 => ?_) (fun hb15 h4 => ?_)
      · refine COk.seqQ fun Q89 qn89 qx89 qr89 => ?_
        refine gor hn ?_
        refine qn89 _ _ ?_
        refine got hn ?_
        refine qr85 _ _ ?_
        refine qr78 _ _ ?_
        refine qr73 _ _ ?_
        refine qr72 _ _ ?_
        refine qr71 _ _ ?_
        refine qr47 _ _ ?_
        obtain rfl := Option.some.inj h4
        obtain rfl := Option.some.inj h
        exact ⟨[], _, rfl, (by repeat (first | exact trivial | exact rfl | (refine And.intro ?_ ?_))), trivial, rfl, rfl, rfl, rfl, rfl⟩
      · refine gok hn ?_
        refine qn85 _ _ ?_
        refine qn78 _ _ ?_
        refine gor hn ?_
        refine Or.inl (And.intro (inrK hx9 hl1) ?_)
        refine qn73 _ _ ?_
        refine EOk.done ?_
        exact ⟨⟨(rest5, k2 + 1), hd2, h4⟩, [], by show rest5.length < rest5.length + 1; omega, ⟨⟨rfl, (by repeat (first | exact trivial | exact rfl | (refine And.intro ?_ ?_))), rfl, rfl, trivial⟩, ⟨rfl, trivial⟩, rfl, rfl⟩⟩
  rintro ⟨⟨⟩, rfl⟩
  refine qn47 _ _ ?_
  refine COk.seqQ fun Q90 qn90 qx90 qr90 => ?_
  refine gor hn ?_
  refine qn90 _ _ ?_
  refine got hn ?_
  obtain rfl := Option.some.inj h
  exact ⟨[], _, rfl, (by repeat (first | exact trivial | exact rfl | (refine And.intro ?_ ?_))), trivial, rfl, rfl, rfl, rfl, rfl⟩

/- qcref5.Piece -/
set_option maxRecDepth 100000 in
set_option maxHeartbeats 1000000 in
theorem qcref5_Piece_ok (N : Nat) (a0 : Me) (a1 : Int) (a2 : Int) (a3 : Int) (r : (List Ins)) (h : qcref5_Piece N a0 a1 a2 a3 = some r) : Spec Try.prog 61 [] [.agg (eMe a0), .int a1, .int a2, .int a3] (.own 0) [(0, .row 5 (List.map eIns r) 62)] [0] := by
  refine Spec.of tabOk Try.func61 rfl Try.ntmps61 (by kernel_rfl) rfl rfl rfl fun Γ hn => ?_
  unfold qcref5_Piece at h
  refine COk.seqQ fun Q1588 qn1588 qx1588 qr1588 => ?_
  refine gor hn ?_
  refine qn1588 _ _ ?_
  refine COk.seqQ fun Q1589 qn1589 qx1589 qr1589 => ?_
  refine gor hn ?_
  refine Exists.intro (List.map eIns [(⟨(18 : Int), a2, a0.args, a3, ByteArray.empty⟩ : Ins), (⟨(21 : Int), (0 : Int), (0 : Int), (0 : Int), ByteArray.empty⟩ : Ins)]) (And.intro (by repeat (first | exact trivial | exact rfl | (refine And.intro ?_ ?_))) ?_)
  refine qn1589 _ _ ?_
  refine COk.seqQ fun Q1590 qn1590 qx1590 qr1590 => ?_
  refine COk.seqQ fun Q1591 qn1591 qx1591 qr1591 => ?_
  refine gor hn ?_
  refine qn1591 _ _ ?_
  refine COk.rng 24 rfl (fun hrn => ?_)
  obtain ⟨o5, h6, h⟩ := bindM h
  refine COk.joinR (ι := { s : (List Ins) // o5 = s }) (fun s => [(1, .int a1), (4, .ptr 4 0), (9, .own 22)]) (fun s => [(4, .box (eMe a0) 64), (22, .row 5 (List.map eIns s.1) 62)]) (fun Q1613 qn1613 qx1613 qr1613 => ?_) (by intro s; rw [hn]; rfl) ?_
  · refine COk.blkQ fun Q1614 qn1614 qe1614 qx1614 qr1614 => ?_
    refine COk.loopQ (ι := { q : (Nat × Nat × (List Ins)) // q.1 = (a0.args - (q.2.1 : Int)).toNat ∧ qcref5_Piece_l1 N a0 a1 q.1 q.2.1 q.2.2 = some o5 }) (fun q => [(1, .int a1), (4, .ptr 4 0), (9, .own 22), (24, .int a0.args), (25, .int (q.1.2.1 : Int))]) (fun q => [(4, .box (eMe a0) 64), (22, .row 5 (List.map eIns q.1.2.2) 62)]) (fun q => q.1.1) ⟨((a0.args - ((0 : Nat) : Int)).toNat, 0, [(⟨(18 : Int), a2, a0.args, a3, ByteArray.empty⟩ : Ins), (⟨(21 : Int), (0 : Int), (0 : Int), (0 : Int), ByteArray.empty⟩ : Ins)]), rfl, h6⟩ [] ⟨⟨rfl, rfl, rfl, rfl, rfl, trivial⟩, ⟨rfl, rfl, trivial⟩, rfl, rfl⟩ (by intro q; rw [hn]; rfl) ?_
    rintro ⟨⟨n_, k1, v2⟩, hd8, h6⟩ Q1615 qn1615 qx1615 qr1615
    replace hd8 : n_ = (a0.args - (k1 : Int)).toNat := hd8
    rcases n_ with _ | n9
    · have hlt12 := upNil hd8
      replace h6 := (qcref5_Piece_l1.eq_1 _ _ _ _ _).symm.trans h6
      refine COk.seqQ fun Q1616 qn1616 qx1616 qr1616 => ?_
      refine gor hn ?_
      refine qn1616 _ _ ?_
      refine COk.seqQ fun Q1617 qn1617 qx1617 qr1617 => ?_
      refine goc hn ?_
      refine bselF hlt12 ?_
      refine goe hn ?_
      refine qx1617 _ _ _ ?_
      refine qx1615 _ _ _ ?_
      refine qe1614 _ _ ?_
      refine qn1613 _ _ ?_
      obtain rfl := Option.some.inj h6
      refine EOk.done ?_
      exact ⟨⟨_, rfl⟩, [], trivial, ⟨⟨rfl, rfl, rfl, trivial⟩, ⟨rfl, rfl, trivial⟩, rfl, rfl⟩⟩
    · obtain ⟨hd2, hlt12⟩ := upCons hd8
      replace h6 := (qcref5_Piece_l1.eq_2 _ _ _ _ _ _).symm.trans h6
      refine COk.seqQ fun Q1618 qn1618 qx1618 qr1618 => ?_
      refine gor hn ?_
      refine qn1618 _ _ ?_
      refine COk.seqQ fun Q1619 qn1619 qx1619 qr1619 => ?_
      refine goc hn ?_
      refine bselT hlt12 ?_
      refine gok hn ?_
      refine qn1619 _ _ ?_
      refine COk.seqQ fun Q1620 qn1620 qx1620 qr1620 => ?_
      refine COk.blkQ fun Q1623 qn1623 qe1623 qx1623 qr1623 => ?_
      refine COk.seqQ fun Q1624 qn1624 qx1624 qr1624 => ?_
      refine gor hn ?_
      refine qn1624 _ _ ?_
      refine gor hn ?_
      refine Or.inr ?_
      refine Or.inr ?_
      refine Exists.intro (List.map eIns [(⟨(11 : Int), (wr ((wr (a1 + a0.args)) - (k1 : Int))), (0 : Int), (0 : Int), ByteArray.empty⟩ : Ins)]) (And.intro (by repeat (first | exact trivial | exact rfl | (refine And.intro ?_ ?_))) ?_)
      obtain ⟨hg13, h6⟩ := guardM h6
      refine appM (l2 := [(⟨(11 : Int), (wr ((wr (a1 + a0.args)) - (k1 : Int))), (0 : Int), (0 : Int), ByteArray.empty⟩ : Ins)]) hg13 (leLs_refl _) ?_
      refine qn1623 _ _ ?_
      refine qn1620 _ _ ?_
      refine COk.sub (ts2 := [(1, .int a1), (4, .ptr 4 0), (9, .own 37), (24, .int a0.args), (25, .int (k1 : Int))]) (os2 := [(4, .box (eMe a0) 64), (37, .row 5 (List.map eIns (v2 ++ [(⟨(11 : Int), (wr ((wr (a1 + a0.args)) - (k1 : Int))), (0 : Int), (0 : Int), ByteArray.empty⟩ : Ins)])) 62)]) [] ⟨⟨rfl, rfl, rfl, rfl, rfl, trivial⟩, ⟨rfl, rfl, trivial⟩, rfl, rfl⟩ (by rw [hn]; rfl) ?_
      refine gor hn ?_
      refine Or.inl (And.intro (inrU hlt12 hrn) ?_)
      refine qn1615 _ _ ?_
      refine EOk.done ?_
      exact ⟨⟨(n9, k1 + 1, (v2 ++ [(⟨(11 : Int), (wr ((wr (a1 + a0.args)) - (k1 : Int))), (0 : Int), (0 : Int), ByteArray.empty⟩ : Ins)])), hd2, h6⟩, [(22, 37)], by show n9 < n9 + 1; omega, ⟨⟨rfl, rfl, rfl, rfl, rfl, trivial⟩, ⟨rfl, rfl, trivial⟩, rfl, rfl⟩⟩
  rintro ⟨v4, hv_⟩
  replace hv_ := hv_.symm
  subst hv_
  refine qn1590 _ _ ?_
  refine COk.seqQ fun Q1625 qn1625 qx1625 qr1625 => ?_
  refine gor hn ?_
  refine Exists.intro (List.map eIns [(⟨(11 : Int), a1, (0 : Int), (0 : Int), ByteArray.empty⟩ : Ins)]) (And.intro (by repeat (first | exact trivial | exact rfl | (refine And.intro ?_ ?_))) ?_)
  obtain ⟨hg14, h⟩ := guardM h
  refine appM (l2 := [(⟨(11 : Int), a1, (0 : Int), (0 : Int), ByteArray.empty⟩ : Ins)]) hg14 (leLs_refl _) ?_
  refine qn1625 _ _ ?_
  refine COk.seqQ fun Q1626 qn1626 qx1626 qr1626 => ?_
  refine gor hn ?_
  refine Or.inr ?_
  refine Or.inr ?_
  refine qn1626 _ _ ?_
  refine COk.seqQ fun Q1627 qn1627 qx1627 qr1627 => ?_
  refine COk.seqQ fun Q1628 qn1628 qx1628 qr1628 => ?_
  refine gor hn ?_
  refine qn1628 _ _ ?_
  refine COk.rng 50 rfl (fun hrn => ?_)
  obtain ⟨o19, h20, h⟩ := bindM h
  refine COk.joinR (ι := { s : (List Ins) // o19 = s }) (fun s => [(1, .int a1), (4, .ptr 4 0), (9, .own 43), (11, .int (wr ((wr (a1 + (1 : Int))) + a0.args)))]) (fun s => [(4, .box (eMe a0) 64), (43, .row 5 (List.map eIns s.1) 62)]) (fun Q1650 qn1650 qx1650 qr1650 => ?_) (by intro s; rw [hn]; rfl) ?_
  · refine COk.blkQ fun Q1651 qn1651 qe1651 qx1651 qr1651 => ?_
    refine COk.loopQ (ι := { q : (Nat × Nat × (List Ins)) // q.1 = (a0.temps - (q.2.1 : Int)).toNat ∧ qcref5_Piece_l2 N a0 a1 q.1 q.2.1 q.2.2 = some o19 }) (fun q => [(1, .int a1), (4, .ptr 4 0), (9, .own 43), (11, .int (wr ((wr (a1 + (1 : Int))) + a0.args))), (50, .int a0.temps), (51, .int (q.1.2.1 : Int))]) (fun q => [(4, .box (eMe a0) 64), (43, .row 5 (List.map eIns q.1.2.2) 62)]) (fun q => q.1.1) ⟨((a0.temps - ((0 : Nat) : Int)).toNat, 0, (v4 ++ [(⟨(11 : Int), a1, (0 : Int), (0 : Int), ByteArray.empty⟩ : Ins)])), rfl, h20⟩ [] ⟨⟨rfl, rfl, rfl, rfl, rfl, rfl, trivial⟩, ⟨rfl, rfl, trivial⟩, rfl, rfl⟩ (by intro q; rw [hn]; rfl) ?_
    rintro ⟨⟨n_, k15, v16⟩, hd22, h20⟩ Q1652 qn1652 qx1652 qr1652
    replace hd22 : n_ = (a0.temps - (k15 : Int)).toNat := hd22
    rcases n_ with _ | n23
    · have hlt26 := upNil hd22
      replace h20 := (qcref5_Piece_l2.eq_1 _ _ _ _ _).symm.trans h20
      refine COk.seqQ fun Q1653 qn1653 qx1653 qr1653 => ?_
      refine gor hn ?_
      refine qn1653 _ _ ?_
      refine COk.seqQ fun Q1654 qn1654 qx1654 qr1654 => ?_
      refine goc hn ?_
      refine bselF hlt26 ?_
      refine goe hn ?_
      refine qx1654 _ _ _ ?_
      refine qx1652 _ _ _ ?_
      refine qe1651 _ _ ?_
      refine qn1650 _ _ ?_
      obtain rfl := Option.some.inj h20
      refine EOk.done ?_
      exact ⟨⟨_, rfl⟩, [], trivial, ⟨⟨rfl, rfl, rfl, rfl, trivial⟩, ⟨rfl, rfl, trivial⟩, rfl, rfl⟩⟩
    · obtain ⟨hd2, hlt26⟩ := upCons hd22
      replace h20 := (qcref5_Piece_l2.eq_2 _ _ _ _ _ _).symm.trans h20
      refine COk.seqQ fun Q1655 qn1655 qx1655 qr1655 => ?_
      refine gor hn ?_
      refine qn1655 _ _ ?_
      refine COk.seqQ fun Q1656 qn1656 qx1656 qr1656 => ?_
      refine goc hn ?_
      refine bselT hlt26 ?_
      refine gok hn ?_
      refine qn1656 _ _ ?_
      refine COk.seqQ fun Q1657 qn1657 qx1657 qr1657 => ?_
      refine COk.blkQ fun Q1660 qn1660 qe1660 qx1660 qr1660 => ?_
      refine COk.seqQ fun Q1661 qn1661 qx1661 qr1661 => ?_
      refine gor hn ?_
      refine qn1661 _ _ ?_
      refine gor hn ?_
      refine Or.inr ?_
      refine Exists.intro (List.map eIns [(⟨(6 : Int), (0 : Int), (0 : Int), (0 : Int), ByteArray.empty⟩ : Ins), (⟨(11 : Int), (wr ((wr ((wr (a1 + (1 : Int))) + a0.args)) + (k15 : Int))), (0 : Int), (0 : Int), ByteArray.empty⟩ : Ins)]) (And.intro (by repeat (first | exact trivial | exact rfl | (refine And.intro ?_ ?_))) ?_)
      obtain ⟨hg27, h20⟩ := guardM h20
      refine appM (l2 := [(⟨(6 : Int), (0 : Int), (0 : Int), (0 : Int), ByteArray.empty⟩ : Ins), (⟨(11 : Int), (wr ((wr ((wr (a1 + (1 : Int))) + a0.args)) + (k15 : Int))), (0 : Int), (0 : Int), ByteArray.empty⟩ : Ins)]) hg27 (leLs_refl _) ?_
      refine qn1660 _ _ ?_
      refine qn1657 _ _ ?_
      refine COk.sub (ts2 := [(1, .int a1), (4, .ptr 4 0), (9, .own 61), (11, .int (wr ((wr (a1 + (1 : Int))) + a0.args))), (50, .int a0.temps), (51, .int (k15 : Int))]) (os2 := [(4, .box (eMe a0) 64), (61, .row 5 (List.map eIns (v16 ++ [(⟨(6 : Int), (0 : Int), (0 : Int), (0 : Int), ByteArray.empty⟩ : Ins), (⟨(11 : Int), (wr ((wr ((wr (a1 + (1 : Int))) + a0.args)) + (k15 : Int))), (0 : Int), (0 : Int), ByteArray.empty⟩ : Ins)])) 62)]) [] ⟨⟨rfl, rfl, rfl, rfl, rfl, rfl, trivial⟩, ⟨rfl, rfl, trivial⟩, rfl, rfl⟩ (by rw [hn]; rfl) ?_
      refine gor hn ?_
      refine Or.inl (And.intro (inrU hlt26 hrn) ?_)
      refine qn1652 _ _ ?_
      refine EOk.done ?_
      exact ⟨⟨(n23, k15 + 1, (v16 ++ [(⟨(6 : Int), (0 : Int), (0 : Int), (0 : Int), ByteArray.empty⟩ : Ins), (⟨(11 : Int), (wr ((wr ((wr (a1 + (1 : Int))) + a0.args)) + (k15 : Int))), (0 : Int), (0 : Int), ByteArray.empty⟩ : Ins)])), hd2, h20⟩, [(43, 61)], by show n23 < n23 + 1; omega, ⟨⟨rfl, rfl, rfl, rfl, rfl, rfl, trivial⟩, ⟨rfl, rfl, trivial⟩, rfl, rfl⟩⟩
  rintro ⟨v18, hv_⟩
  replace hv_ := hv_.symm
  subst hv_
  refine qn1627 _ _ ?_
  refine COk.seqQ fun Q1662 qn1662 qx1662 qr1662 => ?_
  refine gor hn ?_
  refine lenM (fun hl28 => ?_)
  refine qn1662 _ _ ?_
  refine COk.seqQ fun Q1663 qn1663 qx1663 qr1663 => ?_
  refine COk.seqQ fun Q1664 qn1664 qx1664 qr1664 => ?_
  refine gor hn ?_
  refine lenM (fun hl29 => ?_)
  refine qn1664 _ _ ?_
  obtain ⟨o34, h35, h⟩ := bindM h
  refine COk.joinR (ι := { s : (List Ins) // o34 = s }) (fun s => [(9, .own 43)]) (fun s => [(43, .row 5 (List.map eIns s.1) 62)]) (fun Q2793 qn2793 qx2793 qr2793 => ?_) (by intro s; rw [hn]; rfl) ?_
  · refine COk.blkQ fun Q2794 qn2794 qe2794 qx2794 qr2794 => ?_
    refine COk.loopQ (ι := { q : ((List Ins) × Nat × (List Ins)) // q.1 = a0.code.drop q.2.1 ∧ qcref5_Piece_l3 N a0 a1 v18 q.1 q.2.1 q.2.2 = some o34 }) (fun q => [(1, .int a1), (4, .ptr 4 0), (9, .own 43), (11, .int (wr ((wr (a1 + (1 : Int))) + a0.args))), (13, .int (v18.length : Int)), (66, .sl 5 (List.map eIns a0.code)), (67, .int (a0.code.length : Int)), (68, .int (q.1.2.1 : Int))]) (fun q => [(4, .box (eMe a0) 64), (43, .row 5 (List.map eIns q.1.2.2) 62)]) (fun q => q.1.1.length) ⟨(a0.code, 0, v18), rfl, h35⟩ [] ⟨⟨rfl, rfl, rfl, rfl, rfl, (by repeat (first | exact trivial | exact rfl | (refine And.intro ?_ ?_))), rfl, rfl, trivial⟩, ⟨rfl, rfl, trivial⟩, rfl, rfl⟩ (by intro q; rw [hn]; rfl) ?_
    rintro ⟨⟨rest_, k30, v31⟩, hd37, h35⟩ Q2795 qn2795 qx2795 qr2795
    replace hd37 : rest_ = a0.code.drop k30 := hd37
    rcases rest_ with _ | ⟨x39, rest36⟩
    · have hlt41 := restNil hd37
      replace h35 := (qcref5_Piece_l3.eq_1 _ _ _ _ _ _).symm.trans h35
      refine COk.seqQ fun Q2796 qn2796 qx2796 qr2796 => ?_
      refine gor hn ?_
      refine qn2796 _ _ ?_
      refine COk.seqQ fun Q2797 qn2797 qx2797 qr2797 => ?_
      refine goc hn ?_
      refine bselF hlt41 ?_
      refine goe hn ?_
      refine qx2797 _ _ _ ?_
      refine qx2795 _ _ _ ?_
      refine qe2794 _ _ ?_
      refine qn2793 _ _ ?_
      obtain rfl := Option.some.inj h35
      refine EOk.done ?_
      exact ⟨⟨_, rfl⟩, [], trivial, ⟨⟨rfl, trivial⟩, ⟨rfl, trivial⟩, rfl, rfl⟩⟩
    · obtain ⟨hx40, hd2, hlt41⟩ := restCons hd37
      replace h35 := (qcref5_Piece_l3.eq_2 _ _ _ _ _ _ _ _).symm.trans h35
      refine COk.seqQ fun Q2798 qn2798 qx2798 qr2798 => ?_
      refine gor hn ?_
      refine qn2798 _ _ ?_
      refine COk.seqQ fun Q2799 qn2799 qx2799 qr2799 => ?_
      refine goc hn ?_
      refine bselT hlt41 ?_
      refine gok hn ?_
      refine qn2799 _ _ ?_
      refine COk.seqQ fun Q2800 qn2800 qx2800 qr2800 => ?_
      refine COk.blkQ fun Q3151 qn3151 qe3151 qx3151 qr3151 => ?_
      refine COk.seqQ fun Q3152 qn3152 qx3152 qr3152 => ?_
      refine gor hn ?_
      refine idxK hx40 ?_
      refine qn3152 _ _ ?_
      refine COk.seqQ fun Q3153 qn3153 qx3153 qr3153 => ?_
      refine COk.seqQ fun Q3154 qn3154 qx3154 qr3154 => ?_
      refine gor hn ?_
      refine qn3154 _ _ ?_
      refine COk.blkQ fun Q3155 qn3155 qe3155 qx3155 qr3155 => ?_
      refine COk.seqQ fun Q3156 qn3156 qx3156 qr3156 => ?_
      refine gor hn ?_
      refine qn3156 _ _ ?_
      obtain ⟨o44, h43, h35⟩ := bindM h35
      refine COk.joinR (ι := { s : Ins // o44 = s }) (fun s => [(1, .int a1), (4, .ptr 4 0), (9, .own 43), (11, .int (wr ((wr (a1 + (1 : Int))) + a0.args))), (13, .int (v18.length : Int)), (15, .ptr 15 0), (66, .sl 5 (List.map eIns a0.code)), (67, .int (a0.code.length : Int)), (68, .int (k30 : Int))]) (fun s => [(4, .box (eMe a0) 64), (15, .box (eIns s.1) 62), (43, .row 5 (List.map eIns v31) 62)]) (fun Q3157 qn3157 qx3157 qr3157 => ?_) (by intro s; rw [hn]; rfl) ?_
      · refine goc hn ?_
        refine bselM h43 (fun hb45 h43 => ?_) (fun hb45 h43 => ?_)
        · refine gor hn ?_
          refine qn3157 _ _ ?_
          obtain rfl := Option.some.inj h43
          refine EOk.done ?_
          exact ⟨⟨_, rfl⟩, [], trivial, ⟨⟨rfl, rfl, rfl, rfl, rfl, rfl, (by repeat (first | exact trivial | exact rfl | (refine And.intro ?_ ?_))), rfl, rfl, trivial⟩, ⟨rfl, rfl, rfl, trivial⟩, rfl, rfl⟩⟩
        · refine COk.seqQ fun Q3158 qn3158 qx3158 qr3158 => ?_
          refine gor hn ?_
          refine qn3158 _ _ ?_
          obtain ⟨o48, h47, h43⟩ := bindM h43
          refine COk.joinR (ι := { s : Ins // o48 = s }) (fun s => [(1, .int a1), (4, .ptr 4 0), (9, .own 43), (11, .int (wr ((wr (a1 + (1 : Int))) + a0.args))), (13, .int (v18.length : Int)), (15, .ptr 15 0), (66, .sl 5 (List.map eIns a0.code)), (67, .int (a0.code.length : Int)), (68, .int (k30 : Int))]) (fun s => [(4, .box (eMe a0) 64), (15, .box (eIns s.1) 62), (43, .row 5 (List.map eIns v31) 62)]) (fun Q3159 qn3159 qx3159 qr3159 => ?_) (by intro s; rw [hn]; rfl) ?_
          · refine goc hn ?_
            refine bselM h47 (fun hb49 h47 => ?_) (fun hb49 h47 => ?_)
            · refine COk.sub (ts2 := [(1, .int a1), (4, .ptr 4 0), (9, .own 43), (11, .int (wr ((wr (a1 + (1 : Int))) + a0.args))), (13, .int (v18.length : Int)), (15, .ptr 15 0), (66, .sl 5 (List.map eIns a0.code)), (67, .int (a0.code.length : Int)), (68, .int (k30 : Int))]) (os2 := [(4, .box (eMe a0) 64), (15, .box (eIns x39) 62), (43, .row 5 (List.map eIns v31) 62)]) [] ⟨⟨rfl, rfl, rfl, rfl, rfl, rfl, (by repeat (first | exact trivial | exact rfl | (refine And.intro ?_ ?_))), rfl, rfl, trivial⟩, ⟨rfl, rfl, rfl, trivial⟩, rfl, rfl⟩ (by rw [hn]; rfl) ?_
              refine gor hn ?_
              refine Or.inr ?_
              refine Or.inr ?_
              refine qn3159 _ _ ?_
              obtain rfl := Option.some.inj h47
              refine EOk.done ?_
              exact ⟨⟨_, rfl⟩, [], trivial, ⟨⟨rfl, rfl, rfl, rfl, rfl, rfl, (by repeat (first | exact trivial | exact rfl | (refine And.intro ?_ ?_))), rfl, rfl, trivial⟩, ⟨rfl, rfl, rfl, trivial⟩, rfl, rfl⟩⟩
            · refine COk.seqQ fun Q3160 qn3160 qx3160 qr3160 => ?_
              refine COk.seqQ fun Q3161 qn3161 qx3161 qr3161 => ?_
              refine COk.sub (ts2 := [(1, .int a1), (4, .ptr 4 0), (9, .own 43), (11, .int (wr ((wr (a1 + (1 : Int))) + a0.args))), (13, .int (v18.length : Int)), (15, .ptr 15 0), (66, .sl 5 (List.map eIns a0.code)), (67, .int (a0.code.length : Int)), (68, .int (k30 : Int)), (73, .int x39.op)]) (os2 := [(4, .box (eMe a0) 64), (15, .box (eIns x39) 62), (43, .row 5 (List.map eIns v31) 62)]) [] ⟨⟨rfl, rfl, rfl, rfl, rfl, rfl, (by repeat (first | exact trivial | exact rfl | (refine And.intro ?_ ?_))), rfl, rfl, rfl, trivial⟩, ⟨rfl, rfl, rfl, trivial⟩, rfl, rfl⟩ (by rw [hn]; rfl) ?_
              refine gor hn ?_
              refine qn3161 _ _ ?_
              obtain ⟨o52, h51, h47⟩ := bindM h47
              refine COk.joinR (ι := { s : Bool // o52 = s }) (fun s => [(1, .int a1), (4, .ptr 4 0), (9, .own 43), (11, .int (wr ((wr (a1 + (1 : Int))) + a0.args))), (13, .int (v18.length : Int)), (15, .ptr 15 0), (66, .sl 5 (List.map eIns a0.code)), (67, .int (a0.code.length : Int)), (68, .int (k30 : Int)), (73, .int x39.op), (86, .bool s.1)]) (fun s => [(4, .box (eMe a0) 64), (15, .box (eIns x39) 62), (43, .row 5 (List.map eIns v31) 62)]) (fun Q3162 qn3162 qx3162 qr3162 => ?_) (by intro s; rw [hn]; rfl) ?_
              · refine goc hn ?_
                refine bselM h51 (fun hb53 h51 => ?_) (fun hb53 h51 => ?_)
                · refine gok hn ?_
                  refine qn3162 _ _ ?_
                  obtain rfl := Option.some.inj h51
                  refine EOk.done ?_
                  exact ⟨⟨_, rfl⟩, [], trivial, ⟨⟨rfl, rfl, rfl, rfl, rfl, rfl, (by repeat (first | exact trivial | exact rfl | (refine And.intro ?_ ?_))), rfl, rfl, rfl, rfl, trivial⟩, ⟨rfl, rfl, rfl, trivial⟩, rfl, rfl⟩⟩
                · refine gor hn ?_
                  refine qn3162 _ _ ?_
                  obtain rfl := Option.some.inj h51
                  refine EOk.done ?_
                  exact ⟨⟨_, rfl⟩, [], trivial, ⟨⟨rfl, rfl, rfl, rfl, rfl, rfl, (by repeat (first | exact trivial | exact rfl | (refine And.intro ?_ ?_))), rfl, rfl, rfl, rfl, trivial⟩, ⟨rfl, rfl, rfl, trivial⟩, rfl, rfl⟩⟩
              rintro ⟨v50, hv_⟩
              replace hv_ := hv_.symm
              subst hv_
              refine qn3160 _ _ ?_
              obtain ⟨o56, h55, h47⟩ := bindM h47
              refine COk.joinR (ι := { s : Ins // o56 = s }) (fun s => [(1, .int a1), (4, .ptr 4 0), (9, .own 43), (11, .int (wr ((wr (a1 + (1 : Int))) + a0.args))), (13, .int (v18.length : Int)), (15, .ptr 15 0), (66, .sl 5 (List.map eIns a0.code)), (67, .int (a0.code.length : Int)), (68, .int (k30 : Int))]) (fun s => [(4, .box (eMe a0) 64), (15, .box (eIns s.1) 62), (43, .row 5 (List.map eIns v31) 62)]) (fun Q3163 qn3163 qx3163 qr3163 => ?_) (by intro s; rw [hn]; rfl) ?_
              · refine goc hn ?_
                refine bselM h55 (fun hb57 h55 => ?_) (fun hb57 h55 => ?_)
                · refine gor hn ?_
                  refine Or.inr ?_
                  refine qn3163 _ _ ?_
                  obtain rfl := Option.some.inj h55
                  refine EOk.done ?_
                  exact ⟨⟨_, rfl⟩, [], trivial, ⟨⟨rfl, rfl, rfl, rfl, rfl, rfl, (by repeat (first | exact trivial | exact rfl | (refine And.intro ?_ ?_))), rfl, rfl, trivial⟩, ⟨rfl, rfl, rfl, trivial⟩, rfl, rfl⟩⟩
                · refine COk.seqQ fun Q3164 qn3164 qx3164 qr3164 => ?_
                  refine gor hn ?_
                  refine qn3164 _ _ ?_
                  obtain ⟨o60, h59, h55⟩ := bindM h55
                  refine COk.joinR (ι := { s : Ins // o60 = s }) (fun s => [(1, .int a1), (4, .ptr 4 0), (9, .own 43), (11, .int (wr ((wr (a1 + (1 : Int))) + a0.args))), (13, .int (v18.length : Int)), (15, .ptr 15 0), (66, .sl 5 (List.map eIns a0.code)), (67, .int (a0.code.length : Int)), (68, .int (k30 : Int))]) (fun s => [(4, .box (eMe a0) 64), (15, .box (eIns s.1) 62), (43, .row 5 (List.map eIns v31) 62)]) (fun Q3165 qn3165 qx3165 qr3165 => ?_) (by intro s; rw [hn]; rfl) ?_
                  · refine goc hn ?_
                    refine bselM h59 (fun hb61 h59 => ?_) (fun hb61 h59 => ?_)
                    · refine gor hn ?_
                      refine qn3165 _ _ ?_
                      obtain rfl := Option.some.inj h59
                      refine EOk.done ?_
                      exact ⟨⟨_, rfl⟩, [], trivial, ⟨⟨rfl, rfl, rfl, rfl, rfl, rfl, (by repeat (first | exact trivial | exact rfl | (refine And.intro ?_ ?_))), rfl, rfl, trivial⟩, ⟨rfl, rfl, rfl, trivial⟩, rfl, rfl⟩⟩
                    · refine COk.seqQ fun Q3166 qn3166 qx3166 qr3166 => ?_
                      refine gor hn ?_
                      refine qn3166 _ _ ?_
                      obtain ⟨o64, h63, h59⟩ := bindM h59
                      refine COk.joinR (ι := { s : Ins // o64 = s }) (fun s => [(1, .int a1), (4, .ptr 4 0), (9, .own 43), (11, .int (wr ((wr (a1 + (1 : Int))) + a0.args))), (13, .int (v18.length : Int)), (15, .ptr 15 0), (66, .sl 5 (List.map eIns a0.code)), (67, .int (a0.code.length : Int)), (68, .int (k30 : Int))]) (fun s => [(4, .box (eMe a0) 64), (15, .box (eIns s.1) 62), (43, .row 5 (List.map eIns v31) 62)]) (fun Q3167 qn3167 qx3167 qr3167 => ?_) (by intro s; rw [hn]; rfl) ?_
                      · refine goc hn ?_
                        refine bselM h63 (fun hb65 h63 => ?_) (fun hb65 h63 => ?_)
                        · refine gor hn ?_
                          refine qn3167 _ _ ?_
                          obtain rfl := Option.some.inj h63
                          refine EOk.done ?_
                          exact ⟨⟨_, rfl⟩, [], trivial, ⟨⟨rfl, rfl, rfl, rfl, rfl, rfl, (by repeat (first | exact trivial | exact rfl | (refine And.intro ?_ ?_))), rfl, rfl, trivial⟩, ⟨rfl, rfl, rfl, trivial⟩, rfl, rfl⟩⟩
                        · refine COk.seqQ fun Q3168 qn3168 qx3168 qr3168 => ?_
                          refine COk.seqQ fun Q3169 qn3169 qx3169 qr3169 => ?_
                          refine gor hn ?_
                          refine qn3169 _ _ ?_
                          obtain ⟨o68, h67, h63⟩ := bindM h63
                          refine COk.joinR (ι := { s : Bool // o68 = s }) (fun s => [(1, .int a1), (4, .ptr 4 0), (9, .own 43), (11, .int (wr ((wr (a1 + (1 : Int))) + a0.args))), (13, .int (v18.length : Int)), (15, .ptr 15 0), (66, .sl 5 (List.map eIns a0.code)), (67, .int (a0.code.length : Int)), (68, .int (k30 : Int)), (73, .int x39.op), (106, .bool s.1)]) (fun s => [(4, .box (eMe a0) 64), (15, .box (eIns x39) 62), (43, .row 5 (List.map eIns v31) 62)]) (fun Q3170 qn3170 qx3170 qr3170 => ?_) (by intro s; rw [hn]; rfl) ?_
                          · refine goc hn ?_
                            refine bselM h67 (fun hb69 h67 => ?_) (fun hb69 h67 => ?_)
                            · refine gok hn ?_
                              refine qn3170 _ _ ?_
                              obtain rfl := Option.some.inj h67
                              refine EOk.done ?_
                              exact ⟨⟨_, rfl⟩, [], trivial, ⟨⟨rfl, rfl, rfl, rfl, rfl, rfl, (by repeat (first | exact trivial | exact rfl | (refine And.intro ?_ ?_))), rfl, rfl, rfl, rfl, trivial⟩, ⟨rfl, rfl, rfl, trivial⟩, rfl, rfl⟩⟩
                            · refine COk.sub (ts2 := [(1, .int a1), (4, .ptr 4 0), (9, .own 43), (11, .int (wr ((wr (a1 + (1 : Int))) + a0.args))), (13, .int (v18.length : Int)), (15, .ptr 15 0), (66, .sl 5 (List.map eIns a0.code)), (67, .int (a0.code.length : Int)), (68, .int (k30 : Int)), (73, .int x39.op)]) (os2 := [(4, .box (eMe a0) 64), (15, .box (eIns x39) 62), (43, .row 5 (List.map eIns v31) 62)]) [] ⟨⟨rfl, rfl, rfl, rfl, rfl, rfl, (by repeat (first | exact trivial | exact rfl | (refine And.intro ?_ ?_))), rfl, rfl, rfl, trivial⟩, ⟨rfl, rfl, rfl, trivial⟩, rfl, rfl⟩ (by rw [hn]; rfl) ?_
                              refine gor hn ?_
                              refine qn3170 _ _ ?_
                              obtain rfl := Option.some.inj h67
                              refine EOk.done ?_
                              exact ⟨⟨_, rfl⟩, [], trivial, ⟨⟨rfl, rfl, rfl, rfl, rfl, rfl, (by repeat (first | exact trivial | exact rfl | (refine And.intro ?_ ?_))), rfl, rfl, rfl, rfl, trivial⟩, ⟨rfl, rfl, rfl, trivial⟩, rfl, rfl⟩⟩
                          rintro ⟨v66, hv_⟩
                          replace hv_ := hv_.symm
                          subst hv_
                          refine qn3168 _ _ ?_
                          obtain ⟨o72, h71, h63⟩ := bindM h63
                          refine COk.joinR (ι := { s : Ins // o72 = s }) (fun s => [(1, .int a1), (4, .ptr 4 0), (9, .own 43), (11, .int (wr ((wr (a1 + (1 : Int))) + a0.args))), (13, .int (v18.length : Int)), (15, .ptr 15 0), (66, .sl 5 (List.map eIns a0.code)), (67, .int (a0.code.length : Int)), (68, .int (k30 : Int))]) (fun s => [(4, .box (eMe a0) 64), (15, .box (eIns s.1) 62), (43, .row 5 (List.map eIns v31) 62)]) (fun Q3171 qn3171 qx3171 qr3171 => ?_) (by intro s; rw [hn]; rfl) ?_
                          · refine goc hn ?_
                            refine bselM h71 (fun hb73 h71 => ?_) (fun hb73 h71 => ?_)
                            · refine gor hn ?_
                              refine Or.inr ?_
                              refine qn3171 _ _ ?_
                              obtain rfl := Option.some.inj h71
                              refine EOk.done ?_
                              exact ⟨⟨_, rfl⟩, [], trivial, ⟨⟨rfl, rfl, rfl, rfl, rfl, rfl, (by repeat (first | exact trivial | exact rfl | (refine And.intro ?_ ?_))), rfl, rfl, trivial⟩, ⟨rfl, rfl, rfl, trivial⟩, rfl, rfl⟩⟩
                            · refine COk.seqQ fun Q3172 qn3172 qx3172 qr3172 => ?_
                              refine gor hn ?_
                              refine qn3172 _ _ ?_
                              obtain ⟨o76, h75, h71⟩ := bindM h71
                              refine COk.joinR (ι := { s : Ins // o76 = s }) (fun s => [(1, .int a1), (4, .ptr 4 0), (9, .own 43), (11, .int (wr ((wr (a1 + (1 : Int))) + a0.args))), (13, .int (v18.length : Int)), (15, .ptr 15 0), (66, .sl 5 (List.map eIns a0.code)), (67, .int (a0.code.length : Int)), (68, .int (k30 : Int))]) (fun s => [(4, .box (eMe a0) 64), (15, .box (eIns s.1) 62), (43, .row 5 (List.map eIns v31) 62)]) (fun Q3173 qn3173 qx3173 qr3173 => ?_) (by intro s; rw [hn]; rfl) ?_
                              · refine goc hn ?_
                                refine bselM h75 (fun hb77 h75 => ?_) (fun hb77 h75 => ?_)
                                · refine gor hn ?_
                                  refine lenM (fun hl78 => ?_)
                                  refine Or.inr ?_
                                  refine qn3173 _ _ ?_
                                  obtain rfl := Option.some.inj h75
                                  refine EOk.done ?_
                                  exact ⟨⟨_, rfl⟩, [], trivial, ⟨⟨rfl, rfl, rfl, rfl, rfl, rfl, (by repeat (first | exact trivial | exact rfl | (refine And.intro ?_ ?_))), rfl, rfl, trivial⟩, ⟨rfl, rfl, rfl, trivial⟩, rfl, rfl⟩⟩
                                · refine gok hn ?_
                                  refine qn3173 _ _ ?_
                                  obtain rfl := Option.some.inj h75
                                  refine EOk.done ?_
                                  exact ⟨⟨_, rfl⟩, [], trivial, ⟨⟨rfl, rfl, rfl, rfl, rfl, rfl, (by repeat (first | exact trivial | exact rfl | (refine And.intro ?_ ?_))), rfl, rfl, trivial⟩, ⟨rfl, rfl, rfl, trivial⟩, rfl, rfl⟩⟩
                              rintro ⟨v74, hv_⟩
                              replace hv_ := hv_.symm
                              subst hv_
                              refine qn3171 _ _ ?_
                              obtain rfl := Option.some.inj h71
                              refine EOk.done ?_
                              exact ⟨⟨_, rfl⟩, [], trivial, ⟨⟨rfl, rfl, rfl, rfl, rfl, rfl, (by repeat (first | exact trivial | exact rfl | (refine And.intro ?_ ?_))), rfl, rfl, trivial⟩, ⟨rfl, rfl, rfl, trivial⟩, rfl, rfl⟩⟩
                          rintro ⟨v70, hv_⟩
                          replace hv_ := hv_.symm
                          subst hv_
                          refine qn3167 _ _ ?_
                          obtain rfl := Option.some.inj h63
                          refine EOk.done ?_
                          exact ⟨⟨_, rfl⟩, [], trivial, ⟨⟨rfl, rfl, rfl, rfl, rfl, rfl, (by repeat (first | exact trivial | exact rfl | (refine And.intro ?_ ?_))), rfl, rfl, trivial⟩, ⟨rfl, rfl, rfl, trivial⟩, rfl, rfl⟩⟩
                      rintro ⟨v62, hv_⟩
                      replace hv_ := hv_.symm
                      subst hv_
                      refine qn3165 _ _ ?_
                      obtain rfl := Option.some.inj h59
                      refine EOk.done ?_
                      exact ⟨⟨_, rfl⟩, [], trivial, ⟨⟨rfl, rfl, rfl, rfl, rfl, rfl, (by repeat (first | exact trivial | exact rfl | (refine And.intro ?_ ?_))), rfl, rfl, trivial⟩, ⟨rfl, rfl, rfl, trivial⟩, rfl, rfl⟩⟩
                  rintro ⟨v58, hv_⟩
                  replace hv_ := hv_.symm
                  subst hv_
                  refine qn3163 _ _ ?_
                  obtain rfl := Option.some.inj h55
                  refine EOk.done ?_
                  exact ⟨⟨_, rfl⟩, [], trivial, ⟨⟨rfl, rfl, rfl, rfl, rfl, rfl, (by repeat (first | exact trivial | exact rfl | (refine And.intro ?_ ?_))), rfl, rfl, trivial⟩, ⟨rfl, rfl, rfl, trivial⟩, rfl, rfl⟩⟩
              rintro ⟨v54, hv_⟩
              replace hv_ := hv_.symm
              subst hv_
              refine qn3159 _ _ ?_
              obtain rfl := Option.some.inj h47
              refine EOk.done ?_
              exact ⟨⟨_, rfl⟩, [], trivial, ⟨⟨rfl, rfl, rfl, rfl, rfl, rfl, (by repeat (first | exact trivial | exact rfl | (refine And.intro ?_ ?_))), rfl, rfl, trivial⟩, ⟨rfl, rfl, rfl, trivial⟩, rfl, rfl⟩⟩
          rintro ⟨v46, hv_⟩
          replace hv_ := hv_.symm
          subst hv_
          refine qn3157 _ _ ?_
          obtain rfl := Option.some.inj h43
          refine EOk.done ?_
          exact ⟨⟨_, rfl⟩, [], trivial, ⟨⟨rfl, rfl, rfl, rfl, rfl, rfl, (by repeat (first | exact trivial | exact rfl | (refine And.intro ?_ ?_))), rfl, rfl, trivial⟩, ⟨rfl, rfl, rfl, trivial⟩, rfl, rfl⟩⟩
      rintro ⟨v42, hv_⟩
      replace hv_ := hv_.symm
      subst hv_
      refine qn3155 _ _ ?_
      refine qn3153 _ _ ?_
      refine gor hn ?_
      refine Exists.intro (List.map eIns [v42]) (And.intro (by repeat (first | exact trivial | exact rfl | (refine And.intro ?_ ?_))) ?_)
      obtain ⟨hg79, h35⟩ := guardM h35
      refine appM (l2 := [v42]) hg79 (leLs_refl _) ?_
      refine qn3151 _ _ ?_
      refine qn2800 _ _ ?_
      refine gor hn ?_
      refine Or.inl (And.intro (inrK hx40 hl29) ?_)
      refine qn2795 _ _ ?_
      refine EOk.done ?_
      exact ⟨⟨(rest36, k30 + 1, (v31 ++ [v42])), hd2, h35⟩, [(43, 125)], by show rest36.length < rest36.length + 1; omega, ⟨⟨rfl, rfl, rfl, rfl, rfl, (by repeat (first | exact trivial | exact rfl | (refine And.intro ?_ ?_))), rfl, rfl, trivial⟩, ⟨rfl, rfl, trivial⟩, rfl, rfl⟩⟩
  rintro ⟨v33, hv_⟩
  replace hv_ := hv_.symm
  subst hv_
  refine qn1663 _ _ ?_
  refine COk.seqQ fun Q3174 qn3174 qx3174 qr3174 => ?_
  refine gor hn ?_
  refine qn3174 _ _ ?_
  refine got hn ?_
  obtain rfl := Option.some.inj h
  exact ⟨[(0, 43)], _, rfl, (by repeat (first | exact trivial | exact rfl | (refine And.intro ?_ ?_))), ⟨rfl, trivial⟩, rfl, rfl, rfl, rfl, rfl⟩
end Go.Proofs.Ytoceeiamcfdnlaa
